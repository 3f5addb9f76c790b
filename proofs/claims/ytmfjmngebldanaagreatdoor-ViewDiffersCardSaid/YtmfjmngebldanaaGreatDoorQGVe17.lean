/- M2, N11, N12, N13, N14, R2, R3. -/
import Derived.Test.YtmfjmngebldanaaGreatDoorQGVe1
import Derived.IntWalk
set_option maxRecDepth 100000
set_option maxHeartbeats 4000000
namespace Go.Proofs.YtmfjmngebldanaaGreatDoor
open Go.Lib renaming hid→jq
open Go.RowKit Go.Shelf
section
theorem ZdT(os:List Nat):∀(i x d:Nat),os[i]?=some x->gv (os.set i d)+1000000000^i*x=gv os+1000000000^i*d:=by
 induction os with
 |nil=>intro i x d h;simp at h
 |cons a os ih=>
  intro i x d h
  cases i with
  |zero=>
   simp only[List.getElem?_cons_zero,Option.some.injEq] at h;subst h;simp only[List.set_cons_zero,gv];omega
  |succ i=>
   rw[List.getElem?_cons_succ] at h;have:=ih i x d h
   simp only[List.set_cons_succ,gv,Nat.pow_succ];rw[Nat.mul_comm (1000000000^i) 1000000000,Nat.mul_assoc,Nat.mul_assoc];omega
theorem Gs.set{os:List Nat}(h:Gs os)(i:Nat){d:Nat}(hd:d<1000000000):Gs (os.set i d):=fun x hx=>by
 rcases List.mem_or_eq_of_mem_set hx with h1|h1
 ·exact h x h1
 ·rw[h1];exact hd
theorem Zi6(n:Nat):gv (List.replicate n 0)=0:=by
 induction n with
 |zero=>rfl
 |succ n ih=>rw[List.replicate_succ,gv,ih]
theorem ZeE(n:Nat):Gs (List.replicate n 0):=fun x hx=>by
 have:=(List.mem_replicate.1 hx).2
 omega
structure TInv (os0 ys:List Nat) (i x k carry:Nat) (os:List Nat):Prop where
 len:os.length=os0.length
 val:gv os+1000000000^(i+k)*carry=gv os0+1000000000^i*(x*gv (ys.take k))
 gs:Gs os
 rest:os.drop (i+k)=os0.drop (i+k)
 lt:carry<1000000000
 none:k=0->os=os0
theorem TInv.zero{os0 ys:List Nat}{i x:Nat}(h:Gs os0):TInv os0 ys i x 0 0 os0:=⟨rfl,by simp[gv],h,rfl,by omega,fun _=>rfl⟩
theorem TInv.step{os0 ys os:List Nat}{i x k carry o y:Nat}(h:TInv os0 ys i x k carry os)(ho:os[i+k]?=some o)(hy:ys[k]?=some y)(hx:x<1000000000)(hys:Gs ys):
 TInv os0 ys i x (k+1) ((carry+(o+x*y))/1000000000) (os.set (i+k) ((carry+(o+x*y))%1000000000)):=by
 have hy9:=hys.at_ hy;have ho9:=h.gs.at_ ho;have hc:=h.lt;have hxy:x*y<=999999999*999999999:=Nat.mul_le_mul (by omega) (by omega);refine⟨by rw[List.length_set];exact h.len,?_,h.gs.set _ (by omega),?_,by omega,fun e=>by omega⟩
 ·have e1:=ZdT os (i+k) o ((carry+(o+x*y))%1000000000) ho;have e2:=XW ys k y hy;have hv:=h.val;generalize hs:carry+(o+x*y)=s at*
  have e3:1000000000^(i+k)*(s%1000000000)+1000000000^(i+(k+1))*(s/1000000000)=1000000000^(i+k)*s:=by
   rw[<-Nat.add_assoc,Nat.pow_succ,Nat.mul_assoc,<-Nat.mul_add]
   congr 1
   omega
  have e4:1000000000^(i+k)*s=1000000000^(i+k)*carry+(1000000000^(i+k)*o+1000000000^(i+k)*(x*y)):=by rw[<-hs,Nat.mul_add,Nat.mul_add]
  have e5:1000000000^i*(x*gv (ys.take (k+1)))=1000000000^i*(x*gv (ys.take k))+1000000000^(i+k)*(x*y):=by
   rw[e2,Nat.mul_add,Nat.mul_add,Nat.pow_add,Nat.mul_assoc,Nat.mul_left_comm x]
  omega
 ·rw[List.drop_set_of_lt (by omega)];have:=congrArg (List.drop 1) h.rest
  rw[List.drop_drop,List.drop_drop] at this;exact this
structure TOut (xs ys:List Nat) (i:Nat) (os:List Nat):Prop where
 len:os.length=xs.length+ys.length
 val:gv os=gv (xs.take i)*gv ys
 gs:Gs os
 zero:os.drop (i+ys.length)=List.replicate (xs.length-i) 0
theorem TOut.start(xs ys:List Nat):TOut xs ys 0 (List.replicate (xs.length+ys.length) 0):=
 ⟨by simp,by rw[Zi6];simp[gv],ZeE _,by rw[List.drop_replicate];congr 1;omega⟩
theorem TOut.at_{xs ys os0 os:List Nat}{i x carry:Nat}(h:TOut xs ys i os0)(hi:i<xs.length)(t:TInv os0 ys i x ys.length carry os):os[i+ys.length]?=some 0:=by
 have:=congrArg (fun l=>l[0]?) t.rest
 simp only[List.getElem?_drop,Nat.add_zero] at this;rw[this];have:=congrArg (fun l=>l[0]?) h.zero
 simp only[List.getElem?_drop,Nat.add_zero] at this;rw[this,List.getElem?_replicate,if_pos (by omega)]
theorem TOut.next{xs ys os0 os:List Nat}{i x carry:Nat}(h:TOut xs ys i os0)(hx:xs[i]?=some x)(t:TInv os0 ys i x ys.length carry os):TOut xs ys (i+1) (os.set (i+ys.length) carry):=by
 have hi:=(List.getElem?_eq_some_iff.1 hx).1;have ha:=h.at_ hi t;refine⟨by rw[List.length_set,t.len,h.len],?_,t.gs.set _ t.lt,?_⟩
 ·have e1:=ZdT os (i+ys.length) 0 carry ha;have hv:=t.val;rw[List.take_length,h.val] at hv;rw[XW xs i x hx,Nat.add_mul,Nat.mul_assoc];omega
 ·rw[List.drop_set_of_lt (by omega)];have e1:=congrArg (List.drop 1) t.rest;have e2:=congrArg (List.drop 1) h.zero;rw[List.drop_drop] at e1 e2;rw[List.drop_drop] at e1;rw[show i+1+ys.length=i+ys.length+1 by omega,e1,e2,List.drop_replicate]
  congr 1
theorem TOut.next0{xs ys os0:List Nat}{i x:Nat}(h:TOut xs ys i os0)(_hx:xs[i]?=some x)(hy:ys=[]):TOut xs ys (i+1) os0:=by
 subst hy;refine⟨h.len,by rw[h.val];simp[gv],h.gs,?_⟩;have e2:=congrArg (List.drop 1) h.zero;rw[List.drop_drop,List.drop_replicate] at e2;rw[show i+1+([]:List Nat).length=i+([]:List Nat).length+1 by omega,e2]
 congr 1
structure SgInv (xs:List Nat) (d i rest:Nat) (os:List Nat):Prop where
 len:os.length=xs.length
 val:gv (xs.drop i)=d*gv (os.drop i)+rest
 lt:rest<d
 gs:Gs (os.drop i)
theorem SgInv.start(xs:List Nat)(d:Nat)(hd:0<d):SgInv xs d xs.length 0 (List.replicate xs.length 0):=by
 refine⟨by simp,?_,hd,?_⟩
 ·rw[List.drop_of_length_le (Nat.le_refl _),List.drop_of_length_le (by simp)];simp[gv]
 ·rw[List.drop_of_length_le (by simp)];exact Gs.nil
theorem XN{os:List Nat}{i d:Nat}(hi:i<os.length):(os.set i d).drop i=d::os.drop (i+1):=by
 rw[List.drop_eq_getElem_cons (by simpa using hi),List.getElem_set_self,List.drop_set_of_lt (by omega)]
theorem SgInv.step{xs os:List Nat}{d i rest x:Nat}(h:SgInv xs d (i+1) rest os)(hx:xs[i]?=some x)(hgx:Gs xs)(hd:d<1000000000):
 SgInv xs d i ((rest*1000000000+x)%d) (os.set i ((rest*1000000000+x)/d)):=by
 have hi:=(List.getElem?_eq_some_iff.1 hx).1;have hio:i<os.length:=by rw[h.len];exact hi
 have hlt:=h.lt;have hx9:=hgx.at_ hx
 have hq:(rest*1000000000+x)/d<1000000000:=by
  rw[Nat.div_lt_iff_lt_mul (by omega)];have:(rest+1)*1000000000<=d*1000000000:=Nat.mul_le_mul_right _ hlt
  rw[Nat.mul_comm d] at this;omega
 have hm:=Nat.mod_lt (rest*1000000000+x) (show 0<d by omega);have hdm:=Nat.div_add_mod (rest*1000000000+x) d;refine⟨by rw[List.length_set];exact h.len,?_,hm,?_⟩
 ·rw[XN hio,XD xs i x hx,h.val,gv,Nat.mul_add,Nat.mul_add];rw[Nat.mul_left_comm d 1000000000];omega
 ·rw[XN hio];intro y hy
  rcases List.mem_cons.1 hy with h1|h1
  ·rw[h1];exact hq
  ·exact h.gs y h1
theorem SgInv.done{xs os:List Nat}{d rest u:Nat}(h:SgInv xs d 0 rest os)(hu:gv xs=u):Gs os/\gv os=u/d/\rest=u%d:=by
 have hv:=h.val;have hg:=h.gs;rw[List.drop_zero,List.drop_zero,hu] at hv;rw[List.drop_zero] at hg;have hlt:=h.lt;refine⟨hg,?_,?_⟩
 ·rw[hv,Nat.mul_add_div (by omega),Nat.div_eq_of_lt hlt,Nat.add_zero]
 ·rw[hv,Nat.mul_add_mod,Nat.mod_eq_of_lt hlt]
theorem ZeF{P W D top a3 b1 b2 wlo dlo q:Nat}(hW:W=P*(top*1000000000+a3)+wlo)(hD:D=P*(b1*1000000000+b2)+dlo)(ha3:a3<1000000000)(hwlo:wlo<P)(hq:q*D<=W):q*b1<=top:=by
 have hP:0<P:=by omega
 have h1:q*(P*(b1*1000000000))<=q*D:=Nat.mul_le_mul_left _ (by rw[hD,Nat.mul_add];omega)
 have h2:P*(top*1000000000+a3)+wlo<P*((top+1)*1000000000):=by
  have:P*(top*1000000000+a3+1)<=P*((top+1)*1000000000):=Nat.mul_le_mul_left _ (by omega)
  rw[Nat.mul_add] at this;omega
 have h3:P*(q*b1*1000000000)<P*((top+1)*1000000000):=by
  rw[show P*(q*b1*1000000000)=q*(P*(b1*1000000000)) by rw[Nat.mul_left_comm q,<-Nat.mul_assoc q]];omega
 have h4:=Nat.lt_of_mul_lt_mul_left h3;omega
theorem ZfP{P W D top a3 b1 b2 wlo dlo q g:Nat}(hW:W=P*(top*1000000000+a3)+wlo)(hD:D=P*(b1*1000000000+b2)+dlo)(hwlo:wlo<P)(hq:q*D<=W)(hg:g*b1<=top)(ht:(top-g*b1)*1000000000+a3<g*b2):q<g:=by
 rcases Nat.lt_or_ge q g with h|h
 ·exact h
 ·exfalso
  have h1:g*D<=W:=Nat.le_trans (Nat.mul_le_mul_right _ h) hq;have h2:P*(top*1000000000+a3+1)<=P*(g*b1*1000000000+g*b2):=Nat.mul_le_mul_left _ (by omega)
  have h3:P*(g*b1*1000000000+g*b2)=g*(P*(b1*1000000000+b2)):=by
   rw[Nat.mul_left_comm g,Nat.mul_add g,<-Nat.mul_assoc g]
  have h4:g*(P*(b1*1000000000+b2))<=g*D:=Nat.mul_le_mul_left _ (by rw[hD];exact Nat.le_add_right _ _);rw[Nat.mul_add] at h2;omega
theorem ZeG{k V:Nat}(h:(k+1)*V<k*(V+1)):V<k:=by
 rw[Nat.succ_mul,Nat.mul_add k V 1,Nat.mul_one] at h;omega
theorem ZfQ{P W D top a3 b1 b2 wlo dlo q g:Nat}(hW:W=P*(top*1000000000+a3)+wlo)(hD:D=P*(b1*1000000000+b2)+dlo)(hdlo:dlo<P)(hb1:1<=b1)(hb2:b2<1000000000)(hq:W<(q+1)*D)(hg:g*b1<=top)(hg9:g<1000000000)
 (ht:1000000000<=top-g*b1\/g*b2<=(top-g*b1)*1000000000+a3):g<=q+1:=by
 have hgb:g*b2<=(top-g*b1)*1000000000+a3:=by
  rcases ht with h|h
  ·have:g*b2<=1000000000*1000000000:=Nat.mul_le_mul (by omega) (by omega)
   omega
  ·exact h
 rcases Nat.lt_or_ge (q+1) g with h|h
 ·exfalso
  obtain⟨k,rfl⟩:∃k,g=k+1:=⟨g-1,by omega⟩
  have h1:P*((k+1)*(b1*1000000000+b2))<=P*(top*1000000000+a3):=Nat.mul_le_mul_left _ (by rw[Nat.mul_add,<-Nat.mul_assoc];omega);have h2:(q+1)*D<=k*(P*(b1*1000000000+b2+1)):=Nat.mul_le_mul (by omega) (by rw[Nat.mul_add];omega)
  have h3:P*((k+1)*(b1*1000000000+b2))<P*(k*(b1*1000000000+b2+1)):=by
   rw[Nat.mul_left_comm P k];omega
  have h4:=Nat.lt_of_mul_lt_mul_left h3;have h5:=ZeG h4;omega
 ·exact h
structure DInv (xs ys:List Nat) (g i borrow:Nat) (os:List Nat):Prop where
 len:os.length=xs.length
 val:gv (os.take i)+g*gv (ys.take i)=gv (xs.take i)+1000000000^i*borrow
 gs:Gs os
 rest:os.drop i=xs.drop i
 le:borrow<=1000000000
theorem DInv.zero{xs ys:List Nat}{g:Nat}(h:Gs xs):DInv xs ys g 0 0 xs:=⟨rfl,by simp[gv],h,rfl,by omega⟩
theorem DInv.at_{xs ys os:List Nat}{g i borrow:Nat}(h:DInv xs ys g i borrow os)(j:Nat)(hj:i<=j):os[j]?=xs[j]?:=by
 have:=congrArg (fun l=>l[j-i]?) h.rest
 simp only[List.getElem?_drop] at this
 rwa [show i+(j-i)=j by omega] at this
theorem DInv.step{xs ys os:List Nat}{g i borrow x y d b':Nat}(h:DInv xs ys g i borrow os)(hx:xs[i]?=some x)(hy:ys[i]?=some y)(hd:d<1000000000)(hb:b'<=1000000000)(he:d+(g*y+borrow)=x+1000000000*b'):
 DInv xs ys g (i+1) b' (os.set i d):=by
 have hi:=(List.getElem?_eq_some_iff.1 hx).1;have hio:i<os.length:=by rw[h.len];exact hi
 refine⟨by rw[List.length_set];exact h.len,?_,h.gs.set _ hd,?_,hb⟩
 ·rw[XM hio,Yj,List.length_take,Nat.min_eq_left (by omega),XW xs i x hx,XW ys i y hy,Nat.mul_add,Nat.mul_left_comm g];have hv:=h.val;have e:=congrArg (fun t=>1000000000^i*t) he;simp only[Nat.mul_add] at e;rw[Nat.pow_succ,Nat.mul_assoc];omega
 ·rw[List.drop_set_of_lt (by omega)];have:=congrArg (List.drop 1) h.rest
  rw[List.drop_drop,List.drop_drop] at this;exact this
theorem VY{s:List Nat}{k a:Nat}(h:s[k]?=some a)(hz:gv (s.drop (k+1))=0):gv s=gv (s.take k)+1000000000^k*a:=by
 have hk:=(List.getElem?_eq_some_iff.1 h).1;rw[Yo s k (by omega),XD s k a h,hz,Nat.mul_zero,Nat.add_zero]
theorem ZmZ{s0 s1 bs:List Nat}{k g q D a borrow:Nat}(h:DInv s0 bs g k borrow s1)(hk:bs.length=k)(hD:gv bs=D)(ha:s0[k]?=some a)(hz:gv (s0.drop (k+1))=0)(hq:q=gv s0/D)(hD0:0<D)(hg0:q<=g)(hle:borrow<=a):
 g=q/\gv (s1.set k (a-borrow))=gv s0%D:=by
 have ha1:s1[k]?=some a:=by rw[h.at_ k (Nat.le_refl _)];exact ha
 have hz1:gv (s1.drop (k+1))=0:=by
  have:=congrArg (List.drop 1) h.rest
  rw[List.drop_drop,List.drop_drop] at this;rw[this];exact hz
 have e0:=VY ha hz;have e1:=VY ha1 hz1;have e2:=ZdT s1 k a (a-borrow) ha1;have hv:=h.val;rw[List.take_of_length_le (by omega:bs.length<=k),hD] at hv;have e3:1000000000^k*(a-borrow)+1000000000^k*borrow=1000000000^k*a:=by rw[<-Nat.mul_add];congr 1;omega
 have hval:gv (s1.set k (a-borrow))+g*D=gv s0:=by omega
 have hgq:g<=q:=by
  rw[hq,Nat.le_div_iff_mul_le hD0];omega
 obtain rfl:g=q:=by omega
 refine⟨rfl,?_⟩;have:=Nat.div_add_mod (gv s0) D
 rw[<-hq,Nat.mul_comm] at this;omega
theorem Zm0{s0 s1 s2 bs:List Nat}{k g q D a borrow carry:Nat}(h:DInv s0 bs g k borrow s1)(hk:bs.length=k)(hgb:Gs bs)(hD:gv bs=D)(ha:s0[k]?=some a)(hz:gv (s0.drop (k+1))=0)(hq:q=gv s0/D)(hD0:0<D)(hg1:g<=q+1)(hlt:a<borrow)
 (hp:PInv s1 bs k carry s2):g=q+1/\a+carry=borrow/\s2[k]?=some a/\gv (s2.set k 0)=gv s0%D/\Gs s2:=by
 have hkl:=(List.getElem?_eq_some_iff.1 ha).1;have ha1:s1[k]?=some a:=by rw[h.at_ k (Nat.le_refl _)];exact ha
 have ha2:s2[k]?=some a:=hp.at_ ha1
 have hz2:gv (s2.drop (k+1))=0:=by
  have h1:=congrArg (List.drop 1) h.rest;have h2:=congrArg (List.drop 1) hp.rest;rw[List.drop_drop,List.drop_drop] at h1 h2;rw[h2,h1];exact hz
 have e0:=VY ha hz;have e2:=VY ha2 hz2;have e3:=ZdT s2 k a 0 ha2;have hv:=h.val;have hv2:=hp.val;rw[List.take_of_length_le (by omega:bs.length<=k),hD] at hv hv2;have hl1:=Yz (h.gs.take k);have hl2:=Yz hp.gs;have hb:=Yz hgb;rw[List.length_take,Nat.min_eq_left (by rw[h.len];omega)] at hl1;rw[List.length_take,Nat.min_eq_left (by rw[hp.len,h.len];omega)] at hl2;rw[hk,hD] at hb;have hbw:1000000000^k*(a+1)<=1000000000^k*borrow:=Nat.mul_le_mul_left _ hlt;rw[Nat.mul_add,Nat.mul_one] at hbw
 have hgq:q<g:=by
  rw[hq,Nat.div_lt_iff_lt_mul hD0];omega
 obtain rfl:g=q+1:=by omega
 have hdm:=Nat.div_add_mod (gv s0) D;have hml:=Nat.mod_lt (gv s0) hD0;rw[<-hq,Nat.mul_comm] at hdm;rw[Nat.add_mul,Nat.one_mul] at hv;have key:gv (s2.take k)+1000000000^k*(carry+a)=gv s0%D+1000000000^k*borrow:=by rw[Nat.mul_add];omega
 have hdiv:=congrArg (·/1000000000^k) key;have hpos:0<1000000000^k:=Nat.pow_pos (by decide);simp only[Nat.add_mul_div_left _ _ hpos,Nat.div_eq_of_lt hl2,Nat.div_eq_of_lt (Nat.lt_trans hml hb),Nat.zero_add] at hdiv;refine⟨rfl,by omega,ha2,?_,?_⟩
 ·rw[<-hdiv] at key;rw[Nat.mul_zero,Nat.add_zero] at e3;omega
 ·intro x hx;rw[<-List.take_append_drop k s2] at hx
  rcases List.mem_append.1 hx with h1|h1
  ·exact hp.gs x h1
  ·rw[hp.rest] at h1;exact h.gs x (List.mem_of_mem_drop h1)
structure QInv (U D i:Nat) (al qs:List Nat):Prop where
 gsA:Gs al
 gsQ:Gs qs
 val:gv al+1000000000^i*(D*gv (qs.drop i))=U
 rem:gv (al.drop i)<D
theorem QInv.step{U D i g:Nat}{al s' qs:List Nat}(h:QInv U D (i+1) al qs)(hi:i<qs.length)(hia:i<=al.length)(hgs:Gs s')(hg9:g<1000000000)(hg:g=gv (al.drop i)/D)(hs:gv s'=gv (al.drop i)%D):QInv U D i (al.take i++s') (qs.set i g):=by
 have hD:0<D:=by have:=h.rem;omega
 have hl:(al.take i).length=i:=by rw[List.length_take];omega
 refine⟨?_,h.gsQ.set _ hg9,?_,?_⟩
 ·intro x hx
  rcases List.mem_append.1 hx with h1|h1
  ·exact h.gsA x (List.mem_of_mem_take h1)
  ·exact hgs x h1
 ·rw[XN hi,Vm,hl,gv,<-h.val,Yo al i hia];have e:gv s'+D*g=gv (al.drop i):=by rw[hs,hg,Nat.add_comm];exact Nat.div_add_mod _ _
  rw[<-e,Nat.pow_succ,Nat.mul_add D,Nat.mul_add,Nat.mul_add,Nat.mul_assoc (1000000000^i) 1000000000,Nat.mul_left_comm D 1000000000];omega
 ·rw[List.drop_left' hl,hs];exact Nat.mod_lt _ hD
theorem QInv.done{U D:Nat}{al qs:List Nat}(h:QInv U D 0 al qs):gv qs=U/D/\gv al=U%D:=by
 have hv:=h.val;have hr:=h.rem;rw[List.drop_zero] at hr;rw[Nat.pow_zero,Nat.one_mul,List.drop_zero] at hv;rw[<-hv,Nat.add_comm];exact⟨by rw[Nat.mul_add_div (by omega),Nat.div_eq_of_lt hr,Nat.add_zero],by rw[Nat.mul_add_mod,Nat.mod_eq_of_lt hr]⟩
theorem Zi7{al bs:List Nat}{D k:Nat}(hD:gv bs=D)(hk:bs.length=k)(hgb:Gs bs)(h:gv (al.drop 1)<D)(hl:k+1<=al.length):gv (al.drop (k+1))=0:=by
 have hb:=Yz hgb;rw[hk,hD] at hb;have e:=Yo (al.drop 1) k (by rw[List.length_drop];omega);rw[List.drop_drop,Nat.add_comm 1 k] at e
 rcases Nat.eq_zero_or_pos (gv (al.drop (k+1))) with h0|h0
 ·exact h0
 ·have:1000000000^k*1<=1000000000^k*gv (al.drop (k+1)):=Nat.mul_le_mul_left _ h0
  omega
end
section
theorem ZbD{x y:Nat}(hx:x<1000000000)(hy:y<1000000000):x*y<=999999998000000001:=Nat.le_trans (Nat.mul_le_mul (show x<=999999999 by omega) (show y<=999999999 by omega)) (by decide)
theorem ZaT(A A':Option Addr)(n m c c':Nat)(xs ys:List Nat)(u v:Nat)(w:World)(hx:Gr w w.1.size A n xs)(hy:Gr w w.1.size A' m ys)(mx:Mag xs u)(my:Mag ys v)(hn:n<=1000000)(hm:m<=1000000):
 Calls Tryz.prog 254 #[.slice A n c,.slice A' m c'] w (YD (u*v) w):=by
 have HX:=jq hx;have HY:=jq hy;have HMX:=jq mx;have HMY:=jq my;have HXN:=jq hx.1;have HYN:=jq hy.1;clear hx hy mx my;have HPO:=jq (show YD (u*v) w=fun e w'=>∃A n c xs,e=.returned (.slice A n c)/\Own U1 1 127 w' w.1.size (.slice A n c) xs/\Mag xs (u*v)/\Below w.1.size w w' from rfl);generalize YD (u*v) w=post at*;obtain⟨w1,hmk,ho1,hb1⟩:=ZdR w w.1.size (n+m) (n+m) ((n:Int)+m) ((n:Int)+m) (by omega) (by omega) (by omega) (by omega) (Nat.le_refl _)
 have HO1:=jq ho1;clear ho1;have HT0:=jq (TOut.start xs ys);rw[<-HXN.out,<-HYN.out] at HT0;go_enter Tryz.func254,Tryz.ntmps254
 go_wp2_with fail
 clear hmk
 go_loopw [19] (fun i wr=>∃(k:Nat) (os:List Nat),k<=n/\i=.int .i64 k/\Hid (TOut xs ys k os)/\Hid (Own U1 1 127 wr w.1.size (.slice (some ⟨w.1.size,0,none⟩) (n+m) (n+m)) os)/\Below w.1.size w wr) (fun i _=>n-(intOf i).toNat)
 case atStart=>exact⟨0,_,Nat.zero_le _,rfl,HT0,HO1,hb1⟩
 case round=>
  clear HT0 HO1 hb1;obtain⟨i,os0,hi,rfl,HT,HO0,hb0⟩:=hrel
  by_cases hlt:i<n
  ·obtain⟨xb,xo,x,rfl,hxb,hxi,d0⟩:=HX.out.grp hlt
   have d0':=(hb0.cell (p:=⟨xb,xo+i,none⟩) hxb).trans d0;have hx9:=HMX.out.gs.at_ hxi;have HXI:=jq hxi;clear hxi d0;have HZ:=jq (TInv.zero (os0:=os0) (ys:=ys) (i:=i) (x:=x) HT.out.gs);go_wp2_with fail
   clear d0'
   go_loopw [8,26] (fun cy k wr=>∃(j carry:Nat) (os:List Nat),j<=m/\k=.int .i64 j/\cy=.int .u64 carry/\carry<1000000000/\Hid (TInv os0 ys i x j carry os)/\Hid (Own U1 1 127 wr w.1.size (.slice (some ⟨w.1.size,0,none⟩) (n+m) (n+m)) os)/\Below w.1.size w wr) (fun _ k _=>m-(intOf k).toNat)
   case atStart=>exact⟨0,0,os0,Nat.zero_le _,rfl,rfl,by omega,HZ,HO0,hb0⟩
   case round=>
    clear HZ HO0 hb0;obtain⟨j,carry,os,hj,rfl,rfl,hcy,HI,HO,hb⟩:=hrel
    by_cases hjm:j<m
    ·obtain⟨yb,yo,y,rfl,hyb,hyj,e0⟩:=HY.out.grp hjm
     have e0':=(hb.cell (p:=⟨yb,yo+j,none⟩) hyb).trans e0;have hy9:=HMY.out.gs.at_ hyj;obtain⟨gb,go,o,e',_,ho,f1⟩:=(HO.out.sl Qo).grp (i:=i+j) (by omega)
     injection e' with e'
     injection e' with e1 e2
     subst e1;subst e2
     simp only[Nat.zero_add] at f1;have ho9:=HI.out.gs.at_ ho;have HST:=jq (HI.out.step ho hyj hx9 HMY.out.gs);have HOK:=jq ho;have f0:=HO.out.frozen (i+j);have hp:=ZbD hx9 hy9;obtain⟨p,hpe⟩:∃p,p=x*y:=⟨_,rfl⟩
     rw[<-hpe] at hp HST;have hpi:(x:Int)*(y:Int)=(p:Int):=by rw[hpe];simp
     clear hyj ho e0 hpe;have hij:(i:Int)+(j:Int)<(n:Int)+(m:Int):=by omega
     have hij2:((i:Int)+(j:Int)).toNat=i+j:=by omega
     go_wp2_with fail
     go_roundw
     case rel=>
      have h3:=HO.out.setU (i:=i+j) (y:=(carry+(o+p))%1000000000) HOK.out;rw[show(((carry+(o+p))%1000000000:Nat):Int)=((carry:Int)+(o+p))%1000000000 by omega] at h3;refine⟨j+1,(carry+(o+p))/1000000000,os.set (i+j) ((carry+(o+p))%1000000000),by omega,by go_num,by go_num,by omega,HST,?_,?_⟩
      ·show Own _ _ _ _ _ _ _
       with_reducible exact h3
      ·with_reducible exact(hb.setCell (Nat.le_refl _) _)
     case measure=>simp[intOf];omega
    ·obtain rfl:j=m:=by omega
     rw[HYN.out] at HI
     by_cases hm0:j=0
     ·have hmd:decide (0<j)=false:=by simp[hm0]
      obtain rfl:os=os0:=HI.out.none (by rw[<-HYN.out];exact hm0);have HN:=jq (HT.out.next0 HXI.out (List.eq_nil_of_length_eq_zero (by rw[<-HYN.out];exact hm0)));clear hm0;go_wp2_with fail
      go_roundw
      case rel=>exact⟨i+1,os,by omega,by go_num,HN,HO,hb⟩
      case measure=>simp[intOf];omega
     ·have hmd:decide (0<j)=true:=by simp;omega
      have hat:=HT.out.at_ (by rw[<-HXN.out];exact hlt) HI.out;have HN:=jq (HT.out.next HXI.out HI.out);rw[<-HYN.out] at hat HN;obtain⟨gb,go,o,e',_,ho,f1⟩:=(HO.out.sl Qo).grp (i:=i+j) (by omega)
      injection e' with e'
      injection e' with e1 e2
      subst e1;subst e2
      rw[hat] at ho;injection ho with ho;subst ho;simp only[Nat.zero_add] at f1;have f0:=HO.out.frozen (i+j);have HAT:=jq hat;clear hat hm0;have hij:(i:Int)+(j:Int)<(n:Int)+(j:Int):=by omega
      have hij2:((i:Int)+(j:Int)).toNat=i+j:=by omega
      go_wp2_with fail
      go_roundw
      case rel=>
       have h3:=HO.out.setU (i:=i+j) (y:=carry) HAT.out;refine⟨i+1,os.set (i+j) carry,by omega,by go_num,HN,?_,?_⟩
       ·show Own _ _ _ _ _ _ _
        first|with_reducible exact h3|(simp only[Int.natCast_zero,Int.zero_add];exact h3)
       ·with_reducible exact(hb.setCell (Nat.le_refl _) _)
      case measure=>simp[intOf];omega
  ·obtain rfl:i=n:=by omega
   have HV:=jq (show gv os0=u*v by have:=HT.out.val;rw[List.take_of_length_le (by rw[<-HXN.out];omega),HMX.out.val,HMY.out.val] at this;exact this);have HCUT:=jq (VD (some ⟨w.1.size,0,none⟩) (i+m) (i+m) os0 wr (HO0.out.sl Qo) (Nat.le_refl _) (by omega));go_wp2_with fail
   (with_reducible refine HCUT.out.mono ?_)
   rintro e w3 ⟨j,rfl,hj,hgv,hnz,rfl⟩;go_wp2_with fail
   rw[HPO.out];exact⟨_,j,_,os0.take j,rfl,HO0.out.shrink Qo (by rw[<-HO0.out.facts.1];exact hj),⟨HT.out.gs.take j,hnz,by rw[hgv];exact HV.out⟩,hb0⟩
end
section
def JV(q r:Nat)(w:World)(e:Ending)(w':World):Prop:=∃A n c xs,e=.returned (.tuple #[.slice A n c,.int .u64 r])/\Own U1 1 127 w' w.1.size (.slice A n c) xs/\Mag xs q/\Below w.1.size w w'
theorem ZbY(A:Option Addr)(n c:Nat)(xs:List Nat)(u d:Nat)(w:World)(hx:Gr w w.1.size A n xs)(gx:Gs xs)(hu:gv xs=u)(hd0:0<d)(hd:d<1000000000)(hn:n<=1000000):
 Calls Tryz.prog 278 #[.slice A n c,.int .u64 d] w (JV (u/d) (u%d) w):=by
 have HX:=jq hx;have HG:=jq gx;have HU:=jq hu;have HXN:=jq hx.1;clear hx gx hu;have HPO:=jq (show JV (u/d) (u%d) w=fun e w'=>∃A n c xs,e=.returned (.tuple #[.slice A n c,.int .u64 (u%d:Nat)])/\Own U1 1 127 w' w.1.size (.slice A n c) xs/\Mag xs (u/d)/\Below w.1.size w w' from rfl);generalize JV (u/d) (u%d) w=post at*;obtain⟨w1,hmk,ho1,hb1⟩:=ZdR w w.1.size n n (n:Int) (n:Int) rfl rfl (by omega) (by omega) (Nat.le_refl _)
 have HO1:=jq ho1;clear ho1;have HT0:=jq (SgInv.start xs d hd0);rw[<-HXN.out] at HT0;go_enter Tryz.func278,Tryz.ntmps278
 go_wp2_with fail
 clear hmk
 go_loopw [7,8] (fun r i wr=>∃(k rest:Nat) (ii:Int) (os:List Nat),i=.int .i64 ii/\Hid (ii=(k:Int)-1)/\k<=n/\r=.int .u64 rest/\rest<d/\Hid (SgInv xs d k rest os)/\Hid (Own U1 1 127 wr w.1.size (.slice (some ⟨w.1.size,0,none⟩) n n) os)/\Below w.1.size w wr) (fun _ i _=>(intOf i+1).toNat)
 case atStart=>exact⟨n,0,_,_,rfl,by show _=_;rfl,Nat.le_refl _,rfl,hd0,HT0,HO1,hb1⟩
 case round=>
  clear HT0 HO1 hb1;obtain⟨k,rest,ii,os,rfl,HII,hk,rfl,hrd,HI,HO,hb⟩:=hrel
  by_cases hk0:k=0
  ·subst hk0;have hi0:ii<0:=by have:=HII.out;omega
   have HDN:=jq (HI.out.done HU.out);have HCUT:=jq (VD (some ⟨w.1.size,0,none⟩) n n os wr (HO.out.sl Qo) (Nat.le_refl _) (by omega));go_wp2_with fail
   (with_reducible refine HCUT.out.mono ?_)
   rintro e w3 ⟨j,rfl,hj,hgv,hnz,rfl⟩;go_wp2_with fail
   rw[HPO.out];exact⟨_,j,_,os.take j,by rw[HDN.out.2.2];rfl,HO.out.shrink Qo (by rw[<-HO.out.facts.1];exact hj),⟨HDN.out.1.take j,hnz,by rw[hgv];exact HDN.out.2.1⟩,hb⟩
  ·obtain⟨i,rfl⟩:∃i,k=i+1:=⟨k-1,by omega⟩
   obtain rfl:ii=(i:Int):=by have:=HII.out;omega
   obtain⟨xb,xo,x,rfl,hxb,hxi,d0⟩:=HX.out.grp (i:=i) (by omega)
   have d0':=(hb.cell (p:=⟨xb,xo+i,none⟩) hxb).trans d0;have hx9:=HG.out.at_ hxi;have HST:=jq (HI.out.step hxi HG.out hd);obtain⟨gb,go,o,e',_,ho,f1⟩:=(HO.out.sl Qo).grp (i:=i) (by omega)
   injection e' with e'
   injection e' with e1 e2
   subst e1;subst e2
   simp only[Nat.zero_add] at f1;have HOK:=jq ho;have f0:=HO.out.frozen i;clear ho d0 hxi;obtain⟨X,hX⟩:∃X:Nat,X=rest*1000000000+x:=⟨_,rfl⟩
   have hXi:(rest:Int)*1000000000+(x:Int)=(X:Int):=by rw[hX];simp
   have hXl:X<1000000000000000000:=by omega
   rw[<-hX] at HST;have hq:(X:Int)/(d:Int)=((X/d:Nat):Int):=by simp
   have hr:(X:Int)% (d:Int)=((X%d:Nat):Int):=by simp
   have hql:X/d<=X:=Nat.div_le_self _ _;have hrl:X%d<d:=Nat.mod_lt _ hd0;have hdn:((d:Int)==0)=false:=by simp;omega
   clear hX;generalize X/d=q at*;generalize X%d=r at*;go_wp2_with fail
   go_roundw
   case rel=>
    have h3:=HO.out.setU (i:=i) (y:=q) HOK.out;refine⟨i,r,(i:Int)-1,os.set i q,rfl,by show _=_;rfl,by omega,by rw[hr],hrl,HST,?_,?_⟩
    ·show Own _ _ _ _ _ _ _
     with_reducible exact h3
    ·with_reducible exact(hb.setCell (Nat.le_refl _) _)
   case measure=>simp[intOf]
end
section
def Yl(q r:Nat)(w:World)(e:Ending)(w':World):Prop:=
 ∃A1 n1 c1 qs A2 n2 c2 rs,e=.returned (.tuple #[.slice A1 n1 c1,.slice A2 n2 c2])/\Gr w' w'.1.size A1 n1 qs/\n1<=c1/\Mag qs q/\Gr w' w'.1.size A2 n2 rs/\n2<=c2/\Mag rs r/\Below w.1.size w w'
theorem ZeH(A A':Option Addr)(n m c c':Nat)(xs ys:List Nat)(u v:Nat)(w:World)(hx:Gr w w.1.size A n xs)(hy:Gr w w.1.size A' m ys)(mx:Mag xs u)(my:Mag ys v)(hn:n<=1000000)(hm:m<=1000000)(hc:n<=c)(huv:u<v):
 Calls Tryz.prog 256 #[.slice A n c,.slice A' m c'] w (Yl (u/v) (u%v) w):=by
 have HCM:=jq (Ys A A' n m c c' xs ys u v w hx hy mx my hn hm);have HX:=jq hx;have HMX:=jq mx;clear hx hy mx my;have HPO:=jq (show Yl (u/v) (u%v) w=fun e w'=>∃A1 n1 c1 qs A2 n2 c2 rs,e=.returned (.tuple #[.slice A1 n1 c1,.slice A2 n2 c2])/\Gr w' w'.1.size A1 n1 qs/\n1<=c1/\Mag qs (u/v)/\Gr w' w'.1.size A2 n2 rs/\n2<=c2/\Mag rs (u%v)/\Below w.1.size w w' from rfl);generalize Yl (u/v) (u%v) w=post at*;go_enter Tryz.func256,Tryz.ntmps256
 go_wp2_with fail
 (with_reducible refine HCM.out.mono ?_)
 rintro e w1 ⟨r,rfl,hr1,hr2,_,_,hb1⟩;have hr:r<0:=hr1.2 huv;clear hr1 hr2;go_wp2_with fail
 rw[HPO.out];refine⟨none,0,0,[],A,n,c,xs,rfl,Sl.nil,Nat.le_refl _,?_,HX.out.here hb1,hc,?_,hb1⟩
 ·rw[Nat.div_eq_of_lt huv];exact Mag.zero
 ·rw[Nat.mod_eq_of_lt huv];exact HMX.out
theorem ZfR(A A':Option Addr)(n c c':Nat)(xs ys:List Nat)(u v:Nat)(w:World)(hx:Gr w w.1.size A n xs)(hy:Gr w w.1.size A' 1 ys)(mx:Mag xs u)(my:Mag ys v)(hn:n<=1000000)(huv:v<=u):
 Calls Tryz.prog 256 #[.slice A n c,.slice A' 1 c'] w (Yl (u/v) (u%v) w):=by
 have HCM:=jq (Ys A A' n 1 c c' xs ys u v w hx hy mx my hn (by omega));obtain⟨yb,yo,y,rfl,hyb,hy0,d0⟩:=hy.grp (i:=0) (by omega)
 have hyv:ys=[y]:=by
  have hl:=hy.1
  cases ys with
  |nil=>simp at hl
  |cons a t=>
   cases t with
   |nil=>simp at hy0;rw[hy0]
   |cons _ _=>simp at hl
 have hv:v=y:=by rw[<-my.val,hyv];simp[gv]
 subst hv;have hv9:=my.gs.at_ hy0
 have hv0:0<v:=by
  rcases Nat.eq_zero_or_pos v with h|h
  ·have:=my.nil_iff.2 h;rw[hyv] at this;simp at this
  ·exact h
 have HX:=jq hx;have HMX:=jq mx;have HD:=jq d0;clear hx hy mx my hyv hy0 d0;have HPO:=jq (show Yl (u/v) (u%v) w=fun e w'=>∃A1 n1 c1 qs A2 n2 c2 rs,e=.returned (.tuple #[.slice A1 n1 c1,.slice A2 n2 c2])/\Gr w' w'.1.size A1 n1 qs/\n1<=c1/\Mag qs (u/v)/\Gr w' w'.1.size A2 n2 rs/\n2<=c2/\Mag rs (u%v)/\Below w.1.size w w' from rfl);generalize Yl (u/v) (u%v) w=post at*;go_enter Tryz.func256,Tryz.ntmps256
 go_wp2_with fail
 (with_reducible refine HCM.out.mono ?_)
 rintro e w1 ⟨r,rfl,hr1,hr2,_,_,hb1⟩;have hr:¬r<0:=fun h=>by have:=hr1.1 h;omega
 have hrd:decide (r<0)=false:=by simpa using hr
 clear hr1 hr2 hr;have d1:=(hb1.cell (p:=⟨yb,yo+0,none⟩) hyb).trans HD.out;rw[Nat.add_zero] at d1;go_wp2_with fail
 (with_reducible refine(ZbY A n c xs u v w1 (HX.out.here hb1) HMX.out.gs HMX.out.val hv0 hv9 hn).mono ?_)
 rintro e w2 ⟨A1,n1,c1,zs,rfl,ho2,mg2,hb2⟩;have HO2:=jq ho2;have HM2:=jq mg2;have hb02:=hb1.trans (hb2.mono hb1.size);clear ho2 mg2 d1;have hr9:u%v<v:=Nat.mod_lt _ hv0;have HSL:=jq (Sl.lit w2 #[.int .u64 (u%v:Nat)] 127 [u%v] rfl Qo);generalize u%v=rr at*;have HCUT:=jq (VD (some ⟨w2.1.size,0,none⟩) 1 1 [rr] (w2.alloc (.cells #[.int .u64 rr] 127)) (by have:=HSL.out;simpa using this) (Nat.le_refl _) (by omega));go_wp2_with fail
 (with_reducible refine HCUT.out.mono ?_)
 rintro e w3 ⟨j,rfl,hj,hgv,hnz,rfl⟩;go_wp2_with fail
 rw[HPO.out];refine⟨A1,n1,c1,zs,_,j,1,[rr].take j,rfl,(HO2.out.alloc _).sl Qo,?_,HM2.out,?_,hj,⟨?_,hnz,by rw[hgv];simp[gv]⟩,hb02.alloc hb02.size _⟩
 ·obtain⟨h1,h2,_⟩:=HO2.out.facts;omega
 ·have:=HSL.out.take (m:=j) hj
  simpa using this
 ·refine Gs.take (fun x hx=> ?_) j;simp at hx;omega
end
section
theorem JW{pre s:List Nat}{i j:Nat}(h:pre.length=i):(pre++s)[i+j]?=s[j]?:=by
 rw[List.getElem?_append_right (by omega)]
 congr 1
 omega
theorem ZdU{pre s:List Nat}{i j d:Nat}(h:pre.length=i):(pre++s).set (i+j) d=pre++s.set j d:=by
 rw[List.set_append_right _ _ (by omega)]
 congr 2
 omega
structure DSt (w:World) (ga gb gq La ca k cb Lq:Nat) (al bs ql:List Nat) (wr:World):Prop where
 a:Own U1 1 127 wr w.1.size (.slice (some ⟨ga,0,none⟩) La ca) al
 b:Own U1 1 127 wr w.1.size (.slice (some ⟨gb,0,none⟩) k cb) bs
 q:Own U1 1 127 wr w.1.size (.slice (some ⟨gq,0,none⟩) Lq Lq) ql
 ab:ga≠gb
 aq:ga≠gq
 bq:gb≠gq
 wa:w.1.size<=ga
 wq:w.1.size<=gq
 bl:Below w.1.size w wr
section
variable {w wr:World} {ga gb gq La ca k cb Lq:Nat} {al bs ql:List Nat}
theorem Own.cellU{wr:World}{base g n c:Nat}{xs:List Nat}(h:Own U1 1 127 wr base (.slice (some ⟨g,0,none⟩) n c) xs){i x:Nat}(hi:xs[i]?=some x):wr.cell? ⟨g,i,none⟩=some (.int .u64 x):=by
 have hl:=(List.getElem?_eq_some_iff.1 hi).1;obtain⟨b,o,y,e,_,hy,hc⟩:=(h.sl Qo).grp (i:=i) (by rw[h.facts.1];exact hl)
 injection e with e;injection e with e1 e2;subst e1;subst e2
 rw[hi] at hy;injection hy with hy;subst hy;simpa using hc
theorem DSt.setA(h:DSt w ga gb gq La ca k cb Lq al bs ql wr){i x y:Nat}(hi:al[i]?=some x):DSt w ga gb gq La ca k cb Lq (al.set i y) bs ql (wr.setCell ⟨ga,i,none⟩ (.int .u64 y)):=
 ⟨h.a.setU hi,h.b.far (by simp[Value.ownBlock];exact fun e=>h.ab e.symm) _,h.q.far (by simp[Value.ownBlock];exact fun e=>h.aq e.symm) _,h.ab,h.aq,h.bq,h.wa,h.wq,h.bl.setCell h.wa _⟩
theorem DSt.setQ(h:DSt w ga gb gq La ca k cb Lq al bs ql wr){i x y:Nat}(hi:ql[i]?=some x):DSt w ga gb gq La ca k cb Lq al bs (ql.set i y) (wr.setCell ⟨gq,i,none⟩ (.int .u64 y)):=
 ⟨h.a.far (by simp[Value.ownBlock];exact h.aq) _,h.b.far (by simp[Value.ownBlock];exact h.bq) _,h.q.setU hi,h.ab,h.aq,h.bq,h.wa,h.wq,h.bl.setCell h.wq _⟩
theorem DSt.drewN(h:DSt w ga gb gq La ca k cb Lq al bs ql wr)(t:Nat):DSt w ga gb gq La ca k cb Lq al bs ql (wr.drewN t):=
 ⟨h.a.drewN t,h.b.drewN t,h.q.drewN t,h.ab,h.aq,h.bq,h.wa,h.wq,JI h.bl t⟩
theorem DSt.drew(h:DSt w ga gb gq La ca k cb Lq al bs ql wr):DSt w ga gb gq La ca k cb Lq al bs ql wr.drew:=
 ⟨h.a.drew,h.b.drew,h.q.drew,h.ab,h.aq,h.bq,h.wa,h.wq,h.bl.drew⟩
end
theorem QInv.start{ps bs:List Nat}{U D k Lq:Nat}(hp:Mag ps U)(hb:Mag bs D)(hDU:D<=U)(hk:bs.length=k)(hk2:2<=k)(hL:Lq+k=ps.length+2):QInv U D Lq (ps++[0,0]) (List.replicate Lq 0):=by
 have hlen:k<=ps.length:=by
  rcases Nat.lt_or_ge ps.length k with h|h
  ·have:=Xn hp hb (by omega);omega
  ·exact h
 refine⟨(hp.gs.snoc (by omega:0<1000000000)).snoc (by omega:0<1000000000) |> (by simpa using ·),ZeE _,?_,?_⟩
 ·rw[List.drop_of_length_le (by simp),Vm,hp.val];simp[gv]
 ·rw[List.drop_append_of_le_length (by omega),Vm];have h1:=Yz (show Gs (ps.drop Lq) from fun x hx=>hp.gs x (List.mem_of_mem_drop hx));rw[List.length_drop] at h1;have h2:=ZaR (fun e=>by rw[e] at hk;simp at hk;omega) hb.nz;rw[hb.val,hk] at h2;have h3:1000000000^(ps.length-Lq)<=1000000000^(k-1):=Nat.pow_le_pow_right (by omega) (by omega);simp[gv]
  omega
theorem Zlt{s:List Nat}{k ak a2 a3:Nat}(h0:s[k+2]?=some ak)(h1:s[k+1]?=some a2)(h2:s[k]?=some a3)(hz:gv (s.drop (k+2+1))=0):
 gv s=1000000000^k*((ak*1000000000+a2)*1000000000+a3)+gv (s.take k):=by
 have hk:=(List.getElem?_eq_some_iff.1 h2).1;rw[Yo s k (by omega),XD s k a3 h2,XD s (k+1) a2 h1,XD s (k+2) ak h0,hz,Nat.mul_zero,Nat.add_zero,Nat.add_comm]
 congr 2
 omega
theorem Zlu{bs:List Nat}{k b1 b2:Nat}(hl:bs.length=k+2)(h1:bs[k+1]?=some b1)(h2:bs[k]?=some b2):gv bs=1000000000^k*(b1*1000000000+b2)+gv (bs.take k):=by
 rw[Yo bs k (by omega),XD bs k b2 h2,XD bs (k+1) b1 h1,List.drop_of_length_le (by omega)];simp only[gv,Nat.mul_zero,Nat.add_zero];rw[Nat.add_comm]
 congr 2
 omega
theorem Mag.top_ne{bs:List Nat}{D k b1:Nat}(h:Mag bs D)(hl:bs.length=k+1)(h1:bs[k]?=some b1):1<=b1:=by
 rcases Nat.eq_zero_or_pos b1 with h0|h0
 ·exfalso
  subst h0
  apply h.nz
  rw[List.getLast?_eq_getElem?,hl];exact h1
 ·exact h0
theorem ZbZ{s:List Nat}{k:Nat}(h:Gs s)(hk:k<=s.length):gv (s.take k)<1000000000^k:=by
 have:=Yz (h.take k)
 rwa [List.length_take,Nat.min_eq_left hk] at this
end
section
def G1(x:Nat):List Value:=[.int .i64 x]
theorem QQ(x:Nat):(G1 x).length=1:=rfl
theorem Zcx(x:Nat):∀u∈G1 x,u.oneCell'=true:=by simp[G1,Value.oneCell']
abbrev Gi(w:World)(B:Nat)(A:Option Addr)(n:Nat)(xs:List Nat):Prop:=Sl G1 1 w B A n xs
theorem Sl.gri{w:World}{B:Nat}{A:Option Addr}{n:Nat}{xs:List Nat}{i:Nat}(h:Gi w B A n xs)(hi:i<n):
 ∃b off x,A=some ⟨b,off,none⟩/\b<B/\xs[i]?=some x/\w.cell? ⟨b,off+i,none⟩=some (.int .i64 x):=by
 obtain⟨b,off,x,hA,hb,hx,hc⟩:=h.at_ hi
 exact⟨b,off,x,hA,hb,hx,by have:=hc 0 _ rfl;simpa using this⟩
theorem Jo:VP Tryz.prog 128 3 1 8:=Zal Tryz.underlying128 (by kernel_rfl) (by decide) (by decide)
theorem Vx(A:Option Addr)(n c:Nat)(xs:List Nat)(w:World)(hr:Gi w w.1.size A n xs)(hc:n<=c)(hn:n<=1000000000):
 Calls Tryz.prog 217 #[.slice A n c] w (ZgT A n c xs w):=by
 have HXN:=jq hr.1;have HR:=jq hr;clear hr;go_enter Tryz.func217,Tryz.ntmps217
 go_wp2
 go_loop [0] (fun v=>∃j:Nat,v=.slice A j c/\j<=n/\Hid (gv (xs.take j)=gv xs)) (fun v=>match v with| .slice _ j _=>j|_=>0)
 case atStart=>exact⟨n,rfl,Nat.le_refl _,by show _=_;rw[List.take_of_length_le (by rw[<-HXN.out];omega)]⟩
 case round=>
  obtain⟨j,rfl,hj,HG⟩:=hrel
  by_cases h0:j=0
  ·subst h0
   go_wp2
   go_ret
   exact⟨0,rfl,Nat.zero_le _,HG.out,by unfold Nz;simp,rfl⟩
  ·obtain⟨j',rfl⟩:∃j',j=j'+1:=⟨j-1,by omega⟩
   obtain⟨b,off,x,rfl,hb,hx,d0⟩:=HR.out.gri (i:=j') (by omega)
   have HX:=jq hx;clear hx;have hj1:0<=(j':Int):=by omega
   have hj2:j'<=c:=by omega
   by_cases hx0:x=0
   ·have hxb:((x:Int)==0)=true:=by simp[hx0]
    have HG2:=jq (show gv (xs.take j')=gv xs by rw[<-HG.out,XW xs j' x HX.out,hx0];simp);clear hx0
    go_wp2
    go_round
    case rel=>exact⟨j',rfl,by omega,HG2⟩
    case measure=>simp
   ·have hxb:((x:Int)==0)=false:=by simp;omega
    have HZ:=jq (ZgU HX.out hx0);clear hx0
    go_wp2
    go_ret
    exact⟨j'+1,rfl,hj,HG.out,HZ.out,rfl⟩
theorem VL(A:Option Addr)(n c:Nat)(xs:List Nat)(i:Nat)(w:World)(hr:Gi w w.1.size A n xs)(_hn:n<=1000000000)(_hi:i<=1000000000):
 Calls Tryz.prog 216 #[.slice A n c,.int .i64 i] w fun e w'=>e=.returned (.int .i64 (Va xs i))/\w=w':=by
 by_cases h:i<n
 ·obtain⟨b,off,x,rfl,hb,hx,d0⟩:=hr.gri h
  have HG:=jq (show Va xs i=x by unfold Va;simp[List.getD,hx]);clear hx hr;go_enter Tryz.func216,Tryz.ntmps216
  go_wp2
  go_ret
  rw[HG.out];exact⟨rfl,rfl⟩
 ·have HG:=jq (show Va xs i=0 by unfold Va;simp[List.getD];rw[List.getElem?_eq_none (by rw[<-hr.1];omega)];rfl);have hd:decide (i<n)=false:=by simpa using h
  clear hr h;go_enter Tryz.func216,Tryz.ntmps216
  go_wp2
  go_ret
  rw[HG.out];exact⟨rfl,rfl⟩
def Zec(u v:Nat)(w:World)(e:Ending)(w':World):Prop:=e=.returned (.int .i64 (QM ((u:Int)-v)))/\Below w.1.size w w'
theorem ZkA{u v:Nat}(h:u<v):QM ((u:Int)-v)= -1:=by unfold QM;rw[if_pos (by omega)]
theorem ZkB{u v:Nat}(h:v<u):QM ((u:Int)-v)=1:=by unfold QM;rw[if_neg (by omega),if_pos (by omega)]
theorem Znf{u v:Nat}(h:u=v):QM ((u:Int)-v)=0:=by unfold QM;rw[if_neg (by omega),if_neg (by omega)]
theorem Zcy(A A':Option Addr)(n m c c':Nat)(xs ys:List Nat)(u v:Nat)(w:World)(hx:Gi w w.1.size A n xs)(hy:Gi w w.1.size A' m ys)(mx:Mag xs u)(my:Mag ys v)(hn:n<=1000000)(hm:m<=1000000):
 Calls Tryz.prog 220 #[.slice A n c,.slice A' m c'] w (Zec u v w):=by
 have HXN:=jq hx.1;have HYN:=jq hy.1;have HX:=jq hx;have HY:=jq hy;have HMX:=jq mx;have HMY:=jq my;have HPO:=jq (show Zec u v w=fun e w'=>e=.returned (.int .i64 (QM ((u:Int)-v)))/\Below w.1.size w w' from rfl);generalize Zec u v w=post at*;clear hx hy mx my
 by_cases hnm:n=m
 ·obtain rfl:n=m:=hnm;have hne:((n:Int) !=(n:Int))=false:=by simp
  go_enter Tryz.func220,Tryz.ntmps220
  go_wp2
  go_loopw [5] (fun i wr=>∃(k:Nat) (ii:Int),i=.int .i64 ii/\Hid (ii=(k:Int)-1)/\k<=n/\Hid (xs.drop k=ys.drop k)/\Below w.1.size w wr) (fun i _=>(intOf i+1).toNat)
  case atStart=>exact⟨n,_,rfl,by show _=_;rfl,Nat.le_refl _,by show _=_;rw[List.drop_of_length_le (by rw[<-HXN.out];omega),List.drop_of_length_le (by rw[<-HYN.out];omega)],Below.refl _ _⟩
  case round=>
   obtain⟨k,ii,rfl,HII,hk,HD,hb⟩:=hrel
   by_cases hk0:k=0
   ·subst hk0;have hi:ii<0:=by have:=HII.out;omega
    have HE:=jq (show u=v by
     have:=HD.out
     rw[List.drop_zero,List.drop_zero] at this;rw[<-HMX.out.val,<-HMY.out.val,this])
    go_wp2
    rw[HPO.out,Znf HE.out];exact⟨rfl,hb⟩
   ·obtain⟨k',rfl⟩:∃k',k=k'+1:=⟨k-1,by omega⟩
    obtain rfl:ii=(k':Int):=by have:=HII.out;omega
    obtain⟨b1,o1,x,rfl,hl1,hx,d1⟩:=HX.out.gri (i:=k') (by omega)
    obtain⟨b2,o2,y,rfl,hl2,hy,d2⟩:=HY.out.gri (i:=k') (by omega)
    have d1':=(hb.cell (p:=⟨b1,o1+k',none⟩) hl1).trans d1;have d2':=(hb.cell (p:=⟨b2,o2+k',none⟩) hl2).trans d2;have HGX:=jq hx;have HGY:=jq hy;clear d1 d2 hx hy
    by_cases hlt:x<y
    ·have HL:=jq (Zas HMX.out.gs HGX.out HGY.out HD.out hlt);rw[HMX.out.val,HMY.out.val] at HL
     go_wp2
     go_quiet (fail)
     go_wp2
     rw[HPO.out,ZkA HL.out];exact⟨rfl,JI hb nq⟩
    ·have hlt':decide (x<y)=false:=by simpa using hlt
     by_cases hgt:y<x
     ·have HL:=jq (Zas HMY.out.gs HGY.out HGX.out HD.out.symm hgt);rw[HMX.out.val,HMY.out.val] at HL;clear hlt
      go_wp2
      go_quiet (fail)
      have d1'':(wr.drewN nq).cell? ⟨b1,o1+k',none⟩=some (.int .i64 x):=d1';have d2'':(wr.drewN nq).cell? ⟨b2,o2+k',none⟩=some (.int .i64 y):=d2';have hb':=JI hb nq;clear d1' d2' hb;generalize wr.drewN nq=wq at*
      go_wp2
      go_quiet (fail)
      go_wp2
      rw[HPO.out,ZkB HL.out];exact⟨rfl,JI hb' _⟩
     ·have hgt':decide (y<x)=false:=by simpa using hgt
      obtain rfl:x=y:=by omega
      have HD2:=jq (show xs.drop k'=ys.drop k' by
       obtain⟨l1,e1⟩:=List.getElem?_eq_some_iff.1 HGX.out
       obtain⟨l2,e2⟩:=List.getElem?_eq_some_iff.1 HGY.out
       rw[List.drop_eq_getElem_cons l1,List.drop_eq_getElem_cons l2,e1,e2,HD.out])
      clear hlt hgt
      go_wp2
      go_quiet (fail)
      have d1'':(wr.drewN nq).cell? ⟨b1,o1+k',none⟩=some (.int .i64 x):=d1';have d2'':(wr.drewN nq).cell? ⟨b2,o2+k',none⟩=some (.int .i64 x):=d2';have hb':=JI hb nq;clear d1' d2' hb;generalize wr.drewN nq=wq at*
      go_wp2
      go_quiet (fail)
      go_wp2
      go_roundw
      case rel=>exact⟨k',(k':Int)-1,rfl,by show _=_;rfl,by omega,HD2,JI hb' _⟩
      case measure=>simp[intOf]
 ·have hne:((n:Int) !=(m:Int))=true:=by simp;omega
  by_cases hlt:n<m
  ·have HL:=jq (Xn HMX.out HMY.out (by rw[<-HXN.out,<-HYN.out];omega));have hd:decide (n<m)=true:=by simpa using hlt
   clear hnm;go_enter Tryz.func220,Tryz.ntmps220
   go_wp2
   rw[HPO.out,ZkA HL.out];exact⟨rfl,Below.refl _ _⟩
  ·have HL:=jq (Xn HMY.out HMX.out (by rw[<-HXN.out,<-HYN.out];omega));have hd:decide (n<m)=false:=by simpa using hlt
   clear hnm;go_enter Tryz.func220,Tryz.ntmps220
   go_wp2
   rw[HPO.out,ZkB HL.out];exact⟨rfl,Below.refl _ _⟩
end
section
structure RPInv (xs ys:List Nat) (i carry:Nat) (os:List Nat):Prop where
 len:os.length=i
 val:gv os+1000000000^i*carry=gv (xs.take i)+gv (ys.take i)
 gs:Gs os
 one:carry<=1
theorem RPInv.zero(xs ys:List Nat):RPInv xs ys 0 0 []:=⟨rfl,by simp[gv],Gs.nil,by omega⟩
theorem RPInv.step{xs ys os:List Nat}{i carry:Nat}(h:RPInv xs ys i carry os)(hgx:Gs xs)(hgy:Gs ys):
 RPInv xs ys (i+1) ((Va xs i+Va ys i+carry)/1000000000) (os++[(Va xs i+Va ys i+carry)%1000000000]):=by
 have h1:=JU hgx i;have h2:=JU hgy i;have h3:=h.one;refine⟨by rw[List.length_append,h.len];rfl,?_,h.gs.snoc (by omega),by omega⟩;rw[Yj,h.len,Vq xs i,Vq ys i];have hv:=h.val;generalize hs:Va xs i+Va ys i+carry=s at*
 have e:1000000000^i*(s%1000000000)+1000000000^(i+1)*(s/1000000000)=1000000000^i*s:=by
  rw[Nat.pow_succ,Nat.mul_assoc,<-Nat.mul_add]
  congr 1
  omega
 have e2:1000000000^i*s=1000000000^i*Va xs i+1000000000^i*Va ys i+1000000000^i*carry:=by rw[<-hs,Nat.mul_add,Nat.mul_add]
 omega
theorem RPInv.done{xs ys os:List Nat}{i:Nat}(h:RPInv xs ys i 0 os)(hx:xs.length<=i)(hy:ys.length<=i):gv os=gv xs+gv ys:=by
 have hv:=h.val;rw[List.take_of_length_le hx,List.take_of_length_le hy] at hv;simpa using hv
theorem Zed{xs:List Nat}{i:Nat}(h:xs.length<=i):Va xs i=0:=by
 unfold Va;simp[List.getD,List.getElem?_eq_none h]
def Yb(v:Nat)(w:World)(e:Ending)(w':World):Prop:=∃A n c xs,e=.returned (.slice A n c)/\Gi w' w'.1.size A n xs/\n<=c/\Mag xs v/\Below w.1.size w w'
theorem Zin(A A':Option Addr)(n m c c':Nat)(xs ys:List Nat)(u v:Nat)(w:World)(hx:Gi w w.1.size A n xs)(hy:Gi w w.1.size A' m ys)(mx:Mag xs u)(my:Mag ys v)(hn:n<=1000000)(hm:m<=1000000):
 Calls Tryz.prog 219 #[.slice A n c,.slice A' m c'] w (Yb (u+v) w):=by
 have HX:=jq hx;have HY:=jq hy;have HMX:=jq mx;have HMY:=jq my;have HXN:=jq hx.1;have HYN:=jq hy.1;have HPO:=jq (show Yb (u+v) w=fun e w'=>∃A n c xs,e=.returned (.slice A n c)/\Gi w' w'.1.size A n xs/\n<=c/\Mag xs (u+v)/\Below w.1.size w w' from rfl);generalize Yb (u+v) w=post at*;clear hx hy mx my;have HO0:=jq (Own.lit (enc:=G1) (k:=1) (base:=w.1.size) w #[] 3 [] rfl QQ (Nat.le_refl _) (by simp));go_enter Tryz.func219,Tryz.ntmps219
 go_wp2_with fail
 go_loopw [5,6,7] (fun o cy i wr=>∃(k carry co:Nat) (Ao:Option Addr) (os:List Nat),i=.int .i64 k/\cy=.int .i64 carry/\o=.slice Ao k co/\carry<=1/\k<=n+m+1/\Hid (n<=k->m<=k->n+m<k->carry=0)/\Hid (RPInv xs ys k carry os)/\Hid (Own G1 1 3 wr w.1.size (.slice Ao k co) os)/\Below w.1.size w wr) (fun _ _ i _=>n+m+1-(intOf i).toNat)
 case atStart=>exact⟨0,0,0,_,[],rfl,rfl,rfl,by omega,by omega,by show _->_->_->_;intros;rfl,RPInv.zero xs ys,HO0,(Below.refl _ _).alloc (Nat.le_refl _) _⟩
 case round=>
  clear HO0;obtain⟨k,carry,co,Ao,os,rfl,rfl,rfl,hcy,hk,HZ,HI,HO,hb⟩:=hrel
  obtain⟨bb,hbb⟩:∃bb:Bool,bb=decide (k<n\/k<m\/0<carry):=⟨_,rfl⟩
  have HBB:=jq hbb;clear hbb;go_upto_region 4 with (fail)
  go_cut [23] (fun s wc=>s=.bool bb/\wc=wr)
  case first=>
   by_cases h1:k<n
   ·have hd:decide (k<n)=true:=by simpa using h1
    go_wp2_with fail
    go_meet
    exact⟨by rw[HBB.out];simp[h1],rfl⟩
   ·have hd:decide (k<n)=false:=by simpa using h1
    by_cases h2:k<m
    ·have hd2:decide (k<m)=true:=by simpa using h2
     go_wp2_with fail
     go_meet
     exact⟨by rw[HBB.out];simp[h2],rfl⟩
    ·have hd2:decide (k<m)=false:=by simpa using h2
     by_cases h3:0<carry
     ·have hd3:decide (0<carry)=true:=by simpa using h3
      go_wp2_with fail
      go_meet
      exact⟨by rw[HBB.out];simp[h3],rfl⟩
     ·have hd3:decide (0<carry)=false:=by simpa using h3
      go_wp2_with fail
      go_meet
      exact⟨by rw[HBB.out];simp[h1,h2,h3],rfl⟩
  case rest=>
  obtain⟨rfl,hwc⟩:=hcut
  obtain⟨w1,rfl⟩:∃W,W=wc:=⟨_,rfl⟩
  subst hwc
  cases bb with
  |true=>
   have hgo:k<n\/k<m\/0<carry:=by have:=HBB.out;simpa using this
   have hkl:k<=n+m:=by
    rcases Nat.lt_or_ge (n+m) k with h|h
    ·have:=HZ.out (by omega) (by omega) h;omega
    ·exact h
   have HGX:=jq (VL A n c xs k w1 (HX.out.here hb) (by omega) (by omega));have HGY:=jq (VL A' m c' ys k w1 (HY.out.here hb) (by omega) (by omega));have hx9:=JU HMX.out.gs k;have hy9:=JU HMY.out.gs k;have HST:=jq (HI.out.step HMX.out.gs HMY.out.gs)
   have HZ2:=jq (show n<=k+1->m<=k+1->n+m<k+1->(Va xs k+Va ys k+carry)/1000000000=0 by
    intro _ _ h;rw[Zed (by rw[<-HXN.out];omega),Zed (by rw[<-HYN.out];omega)];omega)
   generalize Va xs k=gx at*;generalize Va ys k=gy at*;obtain⟨s,hs⟩:∃s,s=gx+gy+carry:=⟨_,rfl⟩
   rw[<-hs] at HST HZ2;have hsi:(gx:Int)+(gy:Int)+(carry:Int)=(s:Int):=by omega
   have hsl:s<=1999999999:=by omega
   clear hs hgo HBB;have HIL:=jq HI.out.len;obtain⟨q1,q2,q3,hf⟩:=HO.out.facts;clear q1 q2 q3
   have HF:=jq hf;clear hf;go_wp2_with fail
   (with_reducible refine HGX.out.mono ?_)
   rintro e w2 ⟨rfl,rfl⟩;go_wp2_with fail
   (with_reducible refine HGY.out.mono ?_)
   rintro e w2 ⟨rfl,rfl⟩;obtain⟨sr,hsr⟩:∃sr,sr=s%1000000000:=⟨_,rfl⟩
   have hsm:(s:Int)%1000000000=(sr:Int):=by omega
   rw[<-hsr] at HST;clear hsr;go_wp2_with (at_builtin;refine Qs _ rfl (.tmp 35) (.tmp 38) _ rfl Jo QQ Zcx (base:=w.1.size) (.slice Ao k co) os rfl (HO.out.alloc _) _ _ 1 1 [sr] rfl (Sl.lit w1 #[.int .i64 sr] 3 [sr] rfl QQ) (by rw[HIL.out];omega) (by have:=hb.size;simp;omega) ?_;intro A4 c4 w4 ho4 hg4 hat4;rw[HIL.out] at ho4 ⊢)
   have hb4:Below w.1.size w w4:=QK (hb.alloc hb.size _) hg4 (by have:=hb.size;simp;omega) (fun g' e=>by
    rcases HF.out with ⟨rfl,_⟩|⟨g,rfl,hg1,hg2⟩
    ·simp[Value.ownBlock] at e
    ·simp[Value.ownBlock] at e;omega)
   have HO4:=jq ho4;clear ho4 hg4 hat4
   go_roundw
   case rel=>exact⟨k+1,s/1000000000,c4,A4,os++[sr],by go_num,by go_num,rfl,by omega,by omega,HZ2,HST,HO4,hb4⟩
   case measure=>simp[intOf];omega
  |false=>
   have hno:¬(k<n\/k<m\/0<carry):=by have:=HBB.out;simpa using this
   obtain rfl:carry=0:=by omega
   have HV:=jq (HI.out.done (by rw[<-HXN.out];omega) (by rw[<-HYN.out];omega));rw[HMX.out.val,HMY.out.val] at HV;have HOF:=jq HO.out.facts;have HTR:=jq (Vx Ao k co os w1 (HO.out.sl QQ) (by have:=HOF.out.2.1;have:=HOF.out.1;omega) (by omega));clear hno HBB HZ;go_wp2_with fail
   (with_reducible refine HTR.out.mono ?_)
   rintro e w3 ⟨j,rfl,hj,hgv,hnz,rfl⟩;go_wp2_with fail
   rw[HPO.out];exact⟨Ao,j,co,os.take j,rfl,(HO.out.sl QQ).take hj,by have:=HOF.out.2.1;have:=HOF.out.1;omega,⟨HI.out.gs.take j,hnz,by rw[hgv];exact HV.out⟩,hb⟩
end
end Go.Proofs.YtmfjmngebldanaaGreatDoor
