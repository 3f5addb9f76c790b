/- M2. -/
import Derived.Test.YtokjnjdbnabchaaGreatDoorQGEp2
namespace Go.Proofs.YtokjnjdbnabchaaGreatDoor
section
open Go.RowKit Go.Shelf
theorem Zbr(os:List Nat):∀(i x d:Nat),os[i]?=some x->gv (os.set i d)+1000000000^i*x=gv os+1000000000^i*d:=by
 induction os with
 |nil=>intro i x d h;simp at h
 |cons a os ih=>
  intro i x d h
  cases i with
  |zero=>
   simp only[List.getElem?_cons_zero,Option.some.injEq] at h;subst h;simp only[List.set_cons_zero,gv];omega
  |succ i=>
   rw[List.getElem?_cons_succ] at h;have:=ih i x d h
   simp only[List.set_cons_succ,gv,Nat.pow_succ];rw[Nat.mul_comm (1000000000^i) 1000000000,Nat.mul_assoc,Nat.mul_assoc];omega
theorem Gs.set{os:List Nat}(h:Gs os)(i:Nat){d:Nat}(hd:d<1000000000):Gs (os.set i d):=fun x hx=>by
 rcases List.mem_or_eq_of_mem_set hx with h1|h1
 ·exact h x h1
 ·rw[h1];exact hd
theorem Zfk(n:Nat):gv (List.replicate n 0)=0:=by
 induction n with
 |zero=>rfl
 |succ n ih=>rw[List.replicate_succ,gv,ih]
theorem Zch(n:Nat):Gs (List.replicate n 0):=fun x hx=>by
 have:=(List.mem_replicate.1 hx).2
 omega
structure TInv (os0 ys:List Nat) (i x k carry:Nat) (os:List Nat):Prop where
 len:os.length=os0.length
 val:gv os+1000000000^(i+k)*carry=gv os0+1000000000^i*(x*gv (ys.take k))
 gs:Gs os
 rest:os.drop (i+k)=os0.drop (i+k)
 lt:carry<1000000000
 none:k=0->os=os0
theorem TInv.zero{os0 ys:List Nat}{i x:Nat}(h:Gs os0):TInv os0 ys i x 0 0 os0:=⟨rfl,by simp[gv],h,rfl,by omega,fun _=>rfl⟩
theorem TInv.step{os0 ys os:List Nat}{i x k carry o y:Nat}(h:TInv os0 ys i x k carry os)(ho:os[i+k]?=some o)(hy:ys[k]?=some y)(hx:x<1000000000)(hys:Gs ys):
 TInv os0 ys i x (k+1) ((carry+(o+x*y))/1000000000) (os.set (i+k) ((carry+(o+x*y))%1000000000)):=by
 have hy9:=hys.at_ hy;have ho9:=h.gs.at_ ho;have hc:=h.lt;have hxy:x*y<=999999999*999999999:=Nat.mul_le_mul (by omega) (by omega);refine⟨by rw[List.length_set];exact h.len,?_,h.gs.set _ (by omega),?_,by omega,fun e=>by omega⟩
 ·have e1:=Zbr os (i+k) o ((carry+(o+x*y))%1000000000) ho;have e2:=XQ ys k y hy;have hv:=h.val;generalize hs:carry+(o+x*y)=s at*
  have e3:1000000000^(i+k)*(s%1000000000)+1000000000^(i+(k+1))*(s/1000000000)=1000000000^(i+k)*s:=by
   rw[<-Nat.add_assoc,Nat.pow_succ,Nat.mul_assoc,<-Nat.mul_add]
   congr 1
   omega
  have e4:1000000000^(i+k)*s=1000000000^(i+k)*carry+(1000000000^(i+k)*o+1000000000^(i+k)*(x*y)):=by rw[<-hs,Nat.mul_add,Nat.mul_add]
  have e5:1000000000^i*(x*gv (ys.take (k+1)))=1000000000^i*(x*gv (ys.take k))+1000000000^(i+k)*(x*y):=by
   rw[e2,Nat.mul_add,Nat.mul_add,Nat.pow_add,Nat.mul_assoc,Nat.mul_left_comm x]
  omega
 ·rw[List.drop_set_of_lt (by omega)];have:=congrArg (List.drop 1) h.rest
  rw[List.drop_drop,List.drop_drop] at this;exact this
structure TOut (xs ys:List Nat) (i:Nat) (os:List Nat):Prop where
 len:os.length=xs.length+ys.length
 val:gv os=gv (xs.take i)*gv ys
 gs:Gs os
 zero:os.drop (i+ys.length)=List.replicate (xs.length-i) 0
theorem TOut.start(xs ys:List Nat):TOut xs ys 0 (List.replicate (xs.length+ys.length) 0):=
 ⟨by simp,by rw[Zfk];simp[gv],Zch _,by rw[List.drop_replicate];congr 1;omega⟩
theorem TOut.at_{xs ys os0 os:List Nat}{i x carry:Nat}(h:TOut xs ys i os0)(hi:i<xs.length)(t:TInv os0 ys i x ys.length carry os):os[i+ys.length]?=some 0:=by
 have:=congrArg (fun l=>l[0]?) t.rest
 simp only[List.getElem?_drop,Nat.add_zero] at this;rw[this];have:=congrArg (fun l=>l[0]?) h.zero
 simp only[List.getElem?_drop,Nat.add_zero] at this;rw[this,List.getElem?_replicate,if_pos (by omega)]
theorem TOut.next{xs ys os0 os:List Nat}{i x carry:Nat}(h:TOut xs ys i os0)(hx:xs[i]?=some x)(t:TInv os0 ys i x ys.length carry os):TOut xs ys (i+1) (os.set (i+ys.length) carry):=by
 have hi:=(List.getElem?_eq_some_iff.1 hx).1;have ha:=h.at_ hi t;refine⟨by rw[List.length_set,t.len,h.len],?_,t.gs.set _ t.lt,?_⟩
 ·have e1:=Zbr os (i+ys.length) 0 carry ha;have hv:=t.val;rw[List.take_length,h.val] at hv;rw[XQ xs i x hx,Nat.add_mul,Nat.mul_assoc];omega
 ·rw[List.drop_set_of_lt (by omega)];have e1:=congrArg (List.drop 1) t.rest;have e2:=congrArg (List.drop 1) h.zero;rw[List.drop_drop] at e1 e2;rw[List.drop_drop] at e1;rw[show i+1+ys.length=i+ys.length+1 by omega,e1,e2,List.drop_replicate]
  congr 1
theorem TOut.next0{xs ys os0:List Nat}{i x:Nat}(h:TOut xs ys i os0)(_hx:xs[i]?=some x)(hy:ys=[]):TOut xs ys (i+1) os0:=by
 subst hy;refine⟨h.len,by rw[h.val];simp[gv],h.gs,?_⟩;have e2:=congrArg (List.drop 1) h.zero;rw[List.drop_drop,List.drop_replicate] at e2;rw[show i+1+([]:List Nat).length=i+([]:List Nat).length+1 by omega,e2]
 congr 1
structure SgInv (xs:List Nat) (d i rest:Nat) (os:List Nat):Prop where
 len:os.length=xs.length
 val:gv (xs.drop i)=d*gv (os.drop i)+rest
 lt:rest<d
 gs:Gs (os.drop i)
theorem SgInv.start(xs:List Nat)(d:Nat)(hd:0<d):SgInv xs d xs.length 0 (List.replicate xs.length 0):=by
 refine⟨by simp,?_,hd,?_⟩
 ·rw[List.drop_of_length_le (Nat.le_refl _),List.drop_of_length_le (by simp)];simp[gv]
 ·rw[List.drop_of_length_le (by simp)];exact Gs.nil
theorem XX{os:List Nat}{i d:Nat}(hi:i<os.length):(os.set i d).drop i=d::os.drop (i+1):=by
 rw[List.drop_eq_getElem_cons (by simpa using hi),List.getElem_set_self,List.drop_set_of_lt (by omega)]
theorem SgInv.step{xs os:List Nat}{d i rest x:Nat}(h:SgInv xs d (i+1) rest os)(hx:xs[i]?=some x)(hgx:Gs xs)(hd:d<1000000000):
 SgInv xs d i ((rest*1000000000+x)%d) (os.set i ((rest*1000000000+x)/d)):=by
 have hi:=(List.getElem?_eq_some_iff.1 hx).1;have hio:i<os.length:=by rw[h.len];exact hi
 have hlt:=h.lt;have hx9:=hgx.at_ hx
 have hq:(rest*1000000000+x)/d<1000000000:=by
  rw[Nat.div_lt_iff_lt_mul (by omega)];have:(rest+1)*1000000000<=d*1000000000:=Nat.mul_le_mul_right _ hlt
  rw[Nat.mul_comm d] at this;omega
 have hm:=Nat.mod_lt (rest*1000000000+x) (show 0<d by omega);have hdm:=Nat.div_add_mod (rest*1000000000+x) d;refine⟨by rw[List.length_set];exact h.len,?_,hm,?_⟩
 ·rw[XX hio,QY xs i x hx,h.val,gv,Nat.mul_add,Nat.mul_add];rw[Nat.mul_left_comm d 1000000000];omega
 ·rw[XX hio];intro y hy
  rcases List.mem_cons.1 hy with h1|h1
  ·rw[h1];exact hq
  ·exact h.gs y h1
theorem SgInv.done{xs os:List Nat}{d rest u:Nat}(h:SgInv xs d 0 rest os)(hu:gv xs=u):Gs os/\gv os=u/d/\rest=u%d:=by
 have hv:=h.val;have hg:=h.gs;rw[List.drop_zero,List.drop_zero,hu] at hv;rw[List.drop_zero] at hg;have hlt:=h.lt;refine⟨hg,?_,?_⟩
 ·rw[hv,Nat.mul_add_div (by omega),Nat.div_eq_of_lt hlt,Nat.add_zero]
 ·rw[hv,Nat.mul_add_mod,Nat.mod_eq_of_lt hlt]
theorem Zci{P W D top a3 b1 b2 wlo dlo q:Nat}(hW:W=P*(top*1000000000+a3)+wlo)(hD:D=P*(b1*1000000000+b2)+dlo)(ha3:a3<1000000000)(hwlo:wlo<P)(hq:q*D<=W):q*b1<=top:=by
 have hP:0<P:=by omega
 have h1:q*(P*(b1*1000000000))<=q*D:=Nat.mul_le_mul_left _ (by rw[hD,Nat.mul_add];omega)
 have h2:P*(top*1000000000+a3)+wlo<P*((top+1)*1000000000):=by
  have:P*(top*1000000000+a3+1)<=P*((top+1)*1000000000):=Nat.mul_le_mul_left _ (by omega)
  rw[Nat.mul_add] at this;omega
 have h3:P*(q*b1*1000000000)<P*((top+1)*1000000000):=by
  rw[show P*(q*b1*1000000000)=q*(P*(b1*1000000000)) by rw[Nat.mul_left_comm q,<-Nat.mul_assoc q]];omega
 have h4:=Nat.lt_of_mul_lt_mul_left h3;omega
theorem Zdc{P W D top a3 b1 b2 wlo dlo q g:Nat}(hW:W=P*(top*1000000000+a3)+wlo)(hD:D=P*(b1*1000000000+b2)+dlo)(hwlo:wlo<P)(hq:q*D<=W)(hg:g*b1<=top)(ht:(top-g*b1)*1000000000+a3<g*b2):q<g:=by
 rcases Nat.lt_or_ge q g with h|h
 ·exact h
 ·exfalso
  have h1:g*D<=W:=Nat.le_trans (Nat.mul_le_mul_right _ h) hq;have h2:P*(top*1000000000+a3+1)<=P*(g*b1*1000000000+g*b2):=Nat.mul_le_mul_left _ (by omega)
  have h3:P*(g*b1*1000000000+g*b2)=g*(P*(b1*1000000000+b2)):=by
   rw[Nat.mul_left_comm g,Nat.mul_add g,<-Nat.mul_assoc g]
  have h4:g*(P*(b1*1000000000+b2))<=g*D:=Nat.mul_le_mul_left _ (by rw[hD];exact Nat.le_add_right _ _);rw[Nat.mul_add] at h2;omega
theorem Zcj{k V:Nat}(h:(k+1)*V<k*(V+1)):V<k:=by
 rw[Nat.succ_mul,Nat.mul_add k V 1,Nat.mul_one] at h;omega
theorem Zdd{P W D top a3 b1 b2 wlo dlo q g:Nat}(hW:W=P*(top*1000000000+a3)+wlo)(hD:D=P*(b1*1000000000+b2)+dlo)(hdlo:dlo<P)(hb1:1<=b1)(hb2:b2<1000000000)(hq:W<(q+1)*D)(hg:g*b1<=top)(hg9:g<1000000000)
 (ht:1000000000<=top-g*b1\/g*b2<=(top-g*b1)*1000000000+a3):g<=q+1:=by
 have hgb:g*b2<=(top-g*b1)*1000000000+a3:=by
  rcases ht with h|h
  ·have:g*b2<=1000000000*1000000000:=Nat.mul_le_mul (by omega) (by omega)
   omega
  ·exact h
 rcases Nat.lt_or_ge (q+1) g with h|h
 ·exfalso
  obtain⟨k,rfl⟩:∃k,g=k+1:=⟨g-1,by omega⟩
  have h1:P*((k+1)*(b1*1000000000+b2))<=P*(top*1000000000+a3):=Nat.mul_le_mul_left _ (by rw[Nat.mul_add,<-Nat.mul_assoc];omega);have h2:(q+1)*D<=k*(P*(b1*1000000000+b2+1)):=Nat.mul_le_mul (by omega) (by rw[Nat.mul_add];omega)
  have h3:P*((k+1)*(b1*1000000000+b2))<P*(k*(b1*1000000000+b2+1)):=by
   rw[Nat.mul_left_comm P k];omega
  have h4:=Nat.lt_of_mul_lt_mul_left h3;have h5:=Zcj h4;omega
 ·exact h
structure DInv (xs ys:List Nat) (g i borrow:Nat) (os:List Nat):Prop where
 len:os.length=xs.length
 val:gv (os.take i)+g*gv (ys.take i)=gv (xs.take i)+1000000000^i*borrow
 gs:Gs os
 rest:os.drop i=xs.drop i
 le:borrow<=1000000000
theorem DInv.zero{xs ys:List Nat}{g:Nat}(h:Gs xs):DInv xs ys g 0 0 xs:=⟨rfl,by simp[gv],h,rfl,by omega⟩
theorem DInv.at_{xs ys os:List Nat}{g i borrow:Nat}(h:DInv xs ys g i borrow os)(j:Nat)(hj:i<=j):os[j]?=xs[j]?:=by
 have:=congrArg (fun l=>l[j-i]?) h.rest
 simp only[List.getElem?_drop] at this
 rwa [show i+(j-i)=j by omega] at this
theorem DInv.step{xs ys os:List Nat}{g i borrow x y d b':Nat}(h:DInv xs ys g i borrow os)(hx:xs[i]?=some x)(hy:ys[i]?=some y)(hd:d<1000000000)(hb:b'<=1000000000)(he:d+(g*y+borrow)=x+1000000000*b'):
 DInv xs ys g (i+1) b' (os.set i d):=by
 have hi:=(List.getElem?_eq_some_iff.1 hx).1;have hio:i<os.length:=by rw[h.len];exact hi
 refine⟨by rw[List.length_set];exact h.len,?_,h.gs.set _ hd,?_,hb⟩
 ·rw[QX hio,XO,List.length_take,Nat.min_eq_left (by omega),XQ xs i x hx,XQ ys i y hy,Nat.mul_add,Nat.mul_left_comm g];have hv:=h.val;have e:=congrArg (fun t=>1000000000^i*t) he;simp only[Nat.mul_add] at e;rw[Nat.pow_succ,Nat.mul_assoc];omega
 ·rw[List.drop_set_of_lt (by omega)];have:=congrArg (List.drop 1) h.rest
  rw[List.drop_drop,List.drop_drop] at this;exact this
theorem YC{s:List Nat}{k a:Nat}(h:s[k]?=some a)(hz:gv (s.drop (k+1))=0):gv s=gv (s.take k)+1000000000^k*a:=by
 have hk:=(List.getElem?_eq_some_iff.1 h).1;rw[Xr s k (by omega),QY s k a h,hz,Nat.mul_zero,Nat.add_zero]
theorem Zii{s0 s1 bs:List Nat}{k g q D a borrow:Nat}(h:DInv s0 bs g k borrow s1)(hk:bs.length=k)(hD:gv bs=D)(ha:s0[k]?=some a)(hz:gv (s0.drop (k+1))=0)(hq:q=gv s0/D)(hD0:0<D)(hg0:q<=g)(hle:borrow<=a):
 g=q/\gv (s1.set k (a-borrow))=gv s0%D:=by
 have ha1:s1[k]?=some a:=by rw[h.at_ k (Nat.le_refl _)];exact ha
 have hz1:gv (s1.drop (k+1))=0:=by
  have:=congrArg (List.drop 1) h.rest
  rw[List.drop_drop,List.drop_drop] at this;rw[this];exact hz
 have e0:=YC ha hz;have e1:=YC ha1 hz1;have e2:=Zbr s1 k a (a-borrow) ha1;have hv:=h.val;rw[List.take_of_length_le (by omega:bs.length<=k),hD] at hv;have e3:1000000000^k*(a-borrow)+1000000000^k*borrow=1000000000^k*a:=by rw[<-Nat.mul_add];congr 1;omega
 have hval:gv (s1.set k (a-borrow))+g*D=gv s0:=by omega
 have hgq:g<=q:=by
  rw[hq,Nat.le_div_iff_mul_le hD0];omega
 obtain rfl:g=q:=by omega
 refine⟨rfl,?_⟩;have:=Nat.div_add_mod (gv s0) D
 rw[<-hq,Nat.mul_comm] at this;omega
theorem Zij{s0 s1 s2 bs:List Nat}{k g q D a borrow carry:Nat}(h:DInv s0 bs g k borrow s1)(hk:bs.length=k)(hgb:Gs bs)(hD:gv bs=D)(ha:s0[k]?=some a)(hz:gv (s0.drop (k+1))=0)(hq:q=gv s0/D)(hD0:0<D)(hg1:g<=q+1)(hlt:a<borrow)
 (hp:PInv s1 bs k carry s2):g=q+1/\a+carry=borrow/\s2[k]?=some a/\gv (s2.set k 0)=gv s0%D/\Gs s2:=by
 have hkl:=(List.getElem?_eq_some_iff.1 ha).1;have ha1:s1[k]?=some a:=by rw[h.at_ k (Nat.le_refl _)];exact ha
 have ha2:s2[k]?=some a:=hp.at_ ha1
 have hz2:gv (s2.drop (k+1))=0:=by
  have h1:=congrArg (List.drop 1) h.rest;have h2:=congrArg (List.drop 1) hp.rest;rw[List.drop_drop,List.drop_drop] at h1 h2;rw[h2,h1];exact hz
 have e0:=YC ha hz;have e2:=YC ha2 hz2;have e3:=Zbr s2 k a 0 ha2;have hv:=h.val;have hv2:=hp.val;rw[List.take_of_length_le (by omega:bs.length<=k),hD] at hv hv2;have hl1:=XP (h.gs.take k);have hl2:=XP hp.gs;have hb:=XP hgb;rw[List.length_take,Nat.min_eq_left (by rw[h.len];omega)] at hl1;rw[List.length_take,Nat.min_eq_left (by rw[hp.len,h.len];omega)] at hl2;rw[hk,hD] at hb;have hbw:1000000000^k*(a+1)<=1000000000^k*borrow:=Nat.mul_le_mul_left _ hlt;rw[Nat.mul_add,Nat.mul_one] at hbw
 have hgq:q<g:=by
  rw[hq,Nat.div_lt_iff_lt_mul hD0];omega
 obtain rfl:g=q+1:=by omega
 have hdm:=Nat.div_add_mod (gv s0) D;have hml:=Nat.mod_lt (gv s0) hD0;rw[<-hq,Nat.mul_comm] at hdm;rw[Nat.add_mul,Nat.one_mul] at hv;have key:gv (s2.take k)+1000000000^k*(carry+a)=gv s0%D+1000000000^k*borrow:=by rw[Nat.mul_add];omega
 have hdiv:=congrArg (·/1000000000^k) key;have hpos:0<1000000000^k:=Nat.pow_pos (by decide);simp only[Nat.add_mul_div_left _ _ hpos,Nat.div_eq_of_lt hl2,Nat.div_eq_of_lt (Nat.lt_trans hml hb),Nat.zero_add] at hdiv;refine⟨rfl,by omega,ha2,?_,?_⟩
 ·rw[<-hdiv] at key;rw[Nat.mul_zero,Nat.add_zero] at e3;omega
 ·intro x hx;rw[<-List.take_append_drop k s2] at hx
  rcases List.mem_append.1 hx with h1|h1
  ·exact hp.gs x h1
  ·rw[hp.rest] at h1;exact h.gs x (List.mem_of_mem_drop h1)
structure QInv (U D i:Nat) (al qs:List Nat):Prop where
 gsA:Gs al
 gsQ:Gs qs
 val:gv al+1000000000^i*(D*gv (qs.drop i))=U
 rem:gv (al.drop i)<D
theorem QInv.step{U D i g:Nat}{al s' qs:List Nat}(h:QInv U D (i+1) al qs)(hi:i<qs.length)(hia:i<=al.length)(hgs:Gs s')(hg9:g<1000000000)(hg:g=gv (al.drop i)/D)(hs:gv s'=gv (al.drop i)%D):QInv U D i (al.take i++s') (qs.set i g):=by
 have hD:0<D:=by have:=h.rem;omega
 have hl:(al.take i).length=i:=by rw[List.length_take];omega
 refine⟨?_,h.gsQ.set _ hg9,?_,?_⟩
 ·intro x hx
  rcases List.mem_append.1 hx with h1|h1
  ·exact h.gsA x (List.mem_of_mem_take h1)
  ·exact hgs x h1
 ·rw[XX hi,Ya,hl,gv,<-h.val,Xr al i hia];have e:gv s'+D*g=gv (al.drop i):=by rw[hs,hg,Nat.add_comm];exact Nat.div_add_mod _ _
  rw[<-e,Nat.pow_succ,Nat.mul_add D,Nat.mul_add,Nat.mul_add,Nat.mul_assoc (1000000000^i) 1000000000,Nat.mul_left_comm D 1000000000];omega
 ·rw[List.drop_left' hl,hs];exact Nat.mod_lt _ hD
theorem QInv.done{U D:Nat}{al qs:List Nat}(h:QInv U D 0 al qs):gv qs=U/D/\gv al=U%D:=by
 have hv:=h.val;have hr:=h.rem;rw[List.drop_zero] at hr;rw[Nat.pow_zero,Nat.one_mul,List.drop_zero] at hv;rw[<-hv,Nat.add_comm];exact⟨by rw[Nat.mul_add_div (by omega),Nat.div_eq_of_lt hr,Nat.add_zero],by rw[Nat.mul_add_mod,Nat.mod_eq_of_lt hr]⟩
theorem Zfl{al bs:List Nat}{D k:Nat}(hD:gv bs=D)(hk:bs.length=k)(hgb:Gs bs)(h:gv (al.drop 1)<D)(hl:k+1<=al.length):gv (al.drop (k+1))=0:=by
 have hb:=XP hgb;rw[hk,hD] at hb;have e:=Xr (al.drop 1) k (by rw[List.length_drop];omega);rw[List.drop_drop,Nat.add_comm 1 k] at e
 rcases Nat.eq_zero_or_pos (gv (al.drop (k+1))) with h0|h0
 ·exact h0
 ·have:1000000000^k*1<=1000000000^k*gv (al.drop (k+1)):=Nat.mul_le_mul_left _ h0
  omega
end
end Go.Proofs.YtokjnjdbnabchaaGreatDoor
