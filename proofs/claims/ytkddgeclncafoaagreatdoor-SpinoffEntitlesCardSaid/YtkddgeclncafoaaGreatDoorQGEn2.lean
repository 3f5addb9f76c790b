/- M2, N11, N12, N13, N14, N15. -/
import Derived.Test.YtkddgeclncafoaaGreatDoorQGEn1
import Derived.IntWalk
set_option maxRecDepth 100000
set_option maxHeartbeats 8000000
namespace Go.Proofs.YtkddgeclncafoaaGreatDoor
open Go.Lib renaming hid→jq
open Go.RowKit Go.Shelf
section
theorem ZeA(os:List Nat):∀(i x d:Nat),os[i]?=some x->gv (os.set i d)+1000000000^i*x=gv os+1000000000^i*d:=by
 induction os with
 |nil=>intro i x d h;simp at h
 |cons a os ih=>
  intro i x d h
  cases i with
  |zero=>
   simp only[List.getElem?_cons_zero,Option.some.injEq] at h;subst h;simp only[List.set_cons_zero,gv];omega
  |succ i=>
   rw[List.getElem?_cons_succ] at h;have:=ih i x d h
   simp only[List.set_cons_succ,gv,Nat.pow_succ];rw[Nat.mul_comm (1000000000^i) 1000000000,Nat.mul_assoc,Nat.mul_assoc];omega
theorem Gs.set{os:List Nat}(h:Gs os)(i:Nat){d:Nat}(hd:d<1000000000):Gs (os.set i d):=fun x hx=>by
 rcases List.mem_or_eq_of_mem_set hx with h1|h1
 ·exact h x h1
 ·rw[h1];exact hd
theorem Zj9(n:Nat):gv (List.replicate n 0)=0:=by
 induction n with
 |zero=>rfl
 |succ n ih=>rw[List.replicate_succ,gv,ih]
theorem ZfC(n:Nat):Gs (List.replicate n 0):=fun x hx=>by
 have:=(List.mem_replicate.1 hx).2
 omega
structure TInv (os0 ys:List Nat) (i x k carry:Nat) (os:List Nat):Prop where
 len:os.length=os0.length
 val:gv os+1000000000^(i+k)*carry=gv os0+1000000000^i*(x*gv (ys.take k))
 gs:Gs os
 rest:os.drop (i+k)=os0.drop (i+k)
 lt:carry<1000000000
 none:k=0->os=os0
theorem TInv.zero{os0 ys:List Nat}{i x:Nat}(h:Gs os0):TInv os0 ys i x 0 0 os0:=⟨rfl,by simp[gv],h,rfl,by omega,fun _=>rfl⟩
theorem TInv.step{os0 ys os:List Nat}{i x k carry o y:Nat}(h:TInv os0 ys i x k carry os)(ho:os[i+k]?=some o)(hy:ys[k]?=some y)(hx:x<1000000000)(hys:Gs ys):
 TInv os0 ys i x (k+1) ((carry+(o+x*y))/1000000000) (os.set (i+k) ((carry+(o+x*y))%1000000000)):=by
 have hy9:=hys.at_ hy;have ho9:=h.gs.at_ ho;have hc:=h.lt;have hxy:x*y<=999999999*999999999:=Nat.mul_le_mul (by omega) (by omega);refine⟨by rw[List.length_set];exact h.len,?_,h.gs.set _ (by omega),?_,by omega,fun e=>by omega⟩
 ·have e1:=ZeA os (i+k) o ((carry+(o+x*y))%1000000000) ho;have e2:=Yb ys k y hy;have hv:=h.val;generalize hs:carry+(o+x*y)=s at*
  have e3:1000000000^(i+k)*(s%1000000000)+1000000000^(i+(k+1))*(s/1000000000)=1000000000^(i+k)*s:=by
   rw[<-Nat.add_assoc,Nat.pow_succ,Nat.mul_assoc,<-Nat.mul_add]
   congr 1
   omega
  have e4:1000000000^(i+k)*s=1000000000^(i+k)*carry+(1000000000^(i+k)*o+1000000000^(i+k)*(x*y)):=by rw[<-hs,Nat.mul_add,Nat.mul_add]
  have e5:1000000000^i*(x*gv (ys.take (k+1)))=1000000000^i*(x*gv (ys.take k))+1000000000^(i+k)*(x*y):=by
   rw[e2,Nat.mul_add,Nat.mul_add,Nat.pow_add,Nat.mul_assoc,Nat.mul_left_comm x]
  omega
 ·rw[List.drop_set_of_lt (by omega)];have:=congrArg (List.drop 1) h.rest
  rw[List.drop_drop,List.drop_drop] at this;exact this
structure TOut (xs ys:List Nat) (i:Nat) (os:List Nat):Prop where
 len:os.length=xs.length+ys.length
 val:gv os=gv (xs.take i)*gv ys
 gs:Gs os
 zero:os.drop (i+ys.length)=List.replicate (xs.length-i) 0
theorem TOut.start(xs ys:List Nat):TOut xs ys 0 (List.replicate (xs.length+ys.length) 0):=
 ⟨by simp,by rw[Zj9];simp[gv],ZfC _,by rw[List.drop_replicate];congr 1;omega⟩
theorem TOut.at_{xs ys os0 os:List Nat}{i x carry:Nat}(h:TOut xs ys i os0)(hi:i<xs.length)(t:TInv os0 ys i x ys.length carry os):os[i+ys.length]?=some 0:=by
 have:=congrArg (fun l=>l[0]?) t.rest
 simp only[List.getElem?_drop,Nat.add_zero] at this;rw[this];have:=congrArg (fun l=>l[0]?) h.zero
 simp only[List.getElem?_drop,Nat.add_zero] at this;rw[this,List.getElem?_replicate,if_pos (by omega)]
theorem TOut.next{xs ys os0 os:List Nat}{i x carry:Nat}(h:TOut xs ys i os0)(hx:xs[i]?=some x)(t:TInv os0 ys i x ys.length carry os):TOut xs ys (i+1) (os.set (i+ys.length) carry):=by
 have hi:=(List.getElem?_eq_some_iff.1 hx).1;have ha:=h.at_ hi t;refine⟨by rw[List.length_set,t.len,h.len],?_,t.gs.set _ t.lt,?_⟩
 ·have e1:=ZeA os (i+ys.length) 0 carry ha;have hv:=t.val;rw[List.take_length,h.val] at hv;rw[Yb xs i x hx,Nat.add_mul,Nat.mul_assoc];omega
 ·rw[List.drop_set_of_lt (by omega)];have e1:=congrArg (List.drop 1) t.rest;have e2:=congrArg (List.drop 1) h.zero;rw[List.drop_drop] at e1 e2;rw[List.drop_drop] at e1;rw[show i+1+ys.length=i+ys.length+1 by omega,e1,e2,List.drop_replicate]
  congr 1
theorem TOut.next0{xs ys os0:List Nat}{i x:Nat}(h:TOut xs ys i os0)(_hx:xs[i]?=some x)(hy:ys=[]):TOut xs ys (i+1) os0:=by
 subst hy;refine⟨h.len,by rw[h.val];simp[gv],h.gs,?_⟩;have e2:=congrArg (List.drop 1) h.zero;rw[List.drop_drop,List.drop_replicate] at e2;rw[show i+1+([]:List Nat).length=i+([]:List Nat).length+1 by omega,e2]
 congr 1
structure SgInv (xs:List Nat) (d i rest:Nat) (os:List Nat):Prop where
 len:os.length=xs.length
 val:gv (xs.drop i)=d*gv (os.drop i)+rest
 lt:rest<d
 gs:Gs (os.drop i)
theorem SgInv.start(xs:List Nat)(d:Nat)(hd:0<d):SgInv xs d xs.length 0 (List.replicate xs.length 0):=by
 refine⟨by simp,?_,hd,?_⟩
 ·rw[List.drop_of_length_le (Nat.le_refl _),List.drop_of_length_le (by simp)];simp[gv]
 ·rw[List.drop_of_length_le (by simp)];exact Gs.nil
theorem XQ{os:List Nat}{i d:Nat}(hi:i<os.length):(os.set i d).drop i=d::os.drop (i+1):=by
 rw[List.drop_eq_getElem_cons (by simpa using hi),List.getElem_set_self,List.drop_set_of_lt (by omega)]
theorem SgInv.step{xs os:List Nat}{d i rest x:Nat}(h:SgInv xs d (i+1) rest os)(hx:xs[i]?=some x)(hgx:Gs xs)(hd:d<1000000000):
 SgInv xs d i ((rest*1000000000+x)%d) (os.set i ((rest*1000000000+x)/d)):=by
 have hi:=(List.getElem?_eq_some_iff.1 hx).1;have hio:i<os.length:=by rw[h.len];exact hi
 have hlt:=h.lt;have hx9:=hgx.at_ hx
 have hq:(rest*1000000000+x)/d<1000000000:=by
  rw[Nat.div_lt_iff_lt_mul (by omega)];have:(rest+1)*1000000000<=d*1000000000:=Nat.mul_le_mul_right _ hlt
  rw[Nat.mul_comm d] at this;omega
 have hm:=Nat.mod_lt (rest*1000000000+x) (show 0<d by omega);have hdm:=Nat.div_add_mod (rest*1000000000+x) d;refine⟨by rw[List.length_set];exact h.len,?_,hm,?_⟩
 ·rw[XQ hio,XK xs i x hx,h.val,gv,Nat.mul_add,Nat.mul_add];rw[Nat.mul_left_comm d 1000000000];omega
 ·rw[XQ hio];intro y hy
  rcases List.mem_cons.1 hy with h1|h1
  ·rw[h1];exact hq
  ·exact h.gs y h1
theorem SgInv.done{xs os:List Nat}{d rest u:Nat}(h:SgInv xs d 0 rest os)(hu:gv xs=u):Gs os/\gv os=u/d/\rest=u%d:=by
 have hv:=h.val;have hg:=h.gs;rw[List.drop_zero,List.drop_zero,hu] at hv;rw[List.drop_zero] at hg;have hlt:=h.lt;refine⟨hg,?_,?_⟩
 ·rw[hv,Nat.mul_add_div (by omega),Nat.div_eq_of_lt hlt,Nat.add_zero]
 ·rw[hv,Nat.mul_add_mod,Nat.mod_eq_of_lt hlt]
theorem ZfD{P W D top a3 b1 b2 wlo dlo q:Nat}(hW:W=P*(top*1000000000+a3)+wlo)(hD:D=P*(b1*1000000000+b2)+dlo)(ha3:a3<1000000000)(hwlo:wlo<P)(hq:q*D<=W):q*b1<=top:=by
 have hP:0<P:=by omega
 have h1:q*(P*(b1*1000000000))<=q*D:=Nat.mul_le_mul_left _ (by rw[hD,Nat.mul_add];omega)
 have h2:P*(top*1000000000+a3)+wlo<P*((top+1)*1000000000):=by
  have:P*(top*1000000000+a3+1)<=P*((top+1)*1000000000):=Nat.mul_le_mul_left _ (by omega)
  rw[Nat.mul_add] at this;omega
 have h3:P*(q*b1*1000000000)<P*((top+1)*1000000000):=by
  rw[show P*(q*b1*1000000000)=q*(P*(b1*1000000000)) by rw[Nat.mul_left_comm q,<-Nat.mul_assoc q]];omega
 have h4:=Nat.lt_of_mul_lt_mul_left h3;omega
theorem ZgX{P W D top a3 b1 b2 wlo dlo q g:Nat}(hW:W=P*(top*1000000000+a3)+wlo)(hD:D=P*(b1*1000000000+b2)+dlo)(hwlo:wlo<P)(hq:q*D<=W)(hg:g*b1<=top)(ht:(top-g*b1)*1000000000+a3<g*b2):q<g:=by
 rcases Nat.lt_or_ge q g with h|h
 ·exact h
 ·exfalso
  have h1:g*D<=W:=Nat.le_trans (Nat.mul_le_mul_right _ h) hq;have h2:P*(top*1000000000+a3+1)<=P*(g*b1*1000000000+g*b2):=Nat.mul_le_mul_left _ (by omega)
  have h3:P*(g*b1*1000000000+g*b2)=g*(P*(b1*1000000000+b2)):=by
   rw[Nat.mul_left_comm g,Nat.mul_add g,<-Nat.mul_assoc g]
  have h4:g*(P*(b1*1000000000+b2))<=g*D:=Nat.mul_le_mul_left _ (by rw[hD];exact Nat.le_add_right _ _);rw[Nat.mul_add] at h2;omega
theorem ZfE{k V:Nat}(h:(k+1)*V<k*(V+1)):V<k:=by
 rw[Nat.succ_mul,Nat.mul_add k V 1,Nat.mul_one] at h;omega
theorem ZgY{P W D top a3 b1 b2 wlo dlo q g:Nat}(hW:W=P*(top*1000000000+a3)+wlo)(hD:D=P*(b1*1000000000+b2)+dlo)(hdlo:dlo<P)(hb1:1<=b1)(hb2:b2<1000000000)(hq:W<(q+1)*D)(hg:g*b1<=top)(hg9:g<1000000000)
 (ht:1000000000<=top-g*b1\/g*b2<=(top-g*b1)*1000000000+a3):g<=q+1:=by
 have hgb:g*b2<=(top-g*b1)*1000000000+a3:=by
  rcases ht with h|h
  ·have:g*b2<=1000000000*1000000000:=Nat.mul_le_mul (by omega) (by omega)
   omega
  ·exact h
 rcases Nat.lt_or_ge (q+1) g with h|h
 ·exfalso
  obtain⟨k,rfl⟩:∃k,g=k+1:=⟨g-1,by omega⟩
  have h1:P*((k+1)*(b1*1000000000+b2))<=P*(top*1000000000+a3):=Nat.mul_le_mul_left _ (by rw[Nat.mul_add,<-Nat.mul_assoc];omega);have h2:(q+1)*D<=k*(P*(b1*1000000000+b2+1)):=Nat.mul_le_mul (by omega) (by rw[Nat.mul_add];omega)
  have h3:P*((k+1)*(b1*1000000000+b2))<P*(k*(b1*1000000000+b2+1)):=by
   rw[Nat.mul_left_comm P k];omega
  have h4:=Nat.lt_of_mul_lt_mul_left h3;have h5:=ZfE h4;omega
 ·exact h
structure DInv (xs ys:List Nat) (g i borrow:Nat) (os:List Nat):Prop where
 len:os.length=xs.length
 val:gv (os.take i)+g*gv (ys.take i)=gv (xs.take i)+1000000000^i*borrow
 gs:Gs os
 rest:os.drop i=xs.drop i
 le:borrow<=1000000000
theorem DInv.zero{xs ys:List Nat}{g:Nat}(h:Gs xs):DInv xs ys g 0 0 xs:=⟨rfl,by simp[gv],h,rfl,by omega⟩
theorem DInv.at_{xs ys os:List Nat}{g i borrow:Nat}(h:DInv xs ys g i borrow os)(j:Nat)(hj:i<=j):os[j]?=xs[j]?:=by
 have:=congrArg (fun l=>l[j-i]?) h.rest
 simp only[List.getElem?_drop] at this
 rwa [show i+(j-i)=j by omega] at this
theorem DInv.step{xs ys os:List Nat}{g i borrow x y d b':Nat}(h:DInv xs ys g i borrow os)(hx:xs[i]?=some x)(hy:ys[i]?=some y)(hd:d<1000000000)(hb:b'<=1000000000)(he:d+(g*y+borrow)=x+1000000000*b'):
 DInv xs ys g (i+1) b' (os.set i d):=by
 have hi:=(List.getElem?_eq_some_iff.1 hx).1;have hio:i<os.length:=by rw[h.len];exact hi
 refine⟨by rw[List.length_set];exact h.len,?_,h.gs.set _ hd,?_,hb⟩
 ·rw[XP hio,YB,List.length_take,Nat.min_eq_left (by omega),Yb xs i x hx,Yb ys i y hy,Nat.mul_add,Nat.mul_left_comm g];have hv:=h.val;have e:=congrArg (fun t=>1000000000^i*t) he;simp only[Nat.mul_add] at e;rw[Nat.pow_succ,Nat.mul_assoc];omega
 ·rw[List.drop_set_of_lt (by omega)];have:=congrArg (List.drop 1) h.rest
  rw[List.drop_drop,List.drop_drop] at this;exact this
theorem JO{s:List Nat}{k a:Nat}(h:s[k]?=some a)(hz:gv (s.drop (k+1))=0):gv s=gv (s.take k)+1000000000^k*a:=by
 have hk:=(List.getElem?_eq_some_iff.1 h).1;rw[YG s k (by omega),XK s k a h,hz,Nat.mul_zero,Nat.add_zero]
theorem ZnW{s0 s1 bs:List Nat}{k g q D a borrow:Nat}(h:DInv s0 bs g k borrow s1)(hk:bs.length=k)(hD:gv bs=D)(ha:s0[k]?=some a)(hz:gv (s0.drop (k+1))=0)(hq:q=gv s0/D)(hD0:0<D)(hg0:q<=g)(hle:borrow<=a):
 g=q/\gv (s1.set k (a-borrow))=gv s0%D:=by
 have ha1:s1[k]?=some a:=by rw[h.at_ k (Nat.le_refl _)];exact ha
 have hz1:gv (s1.drop (k+1))=0:=by
  have:=congrArg (List.drop 1) h.rest
  rw[List.drop_drop,List.drop_drop] at this;rw[this];exact hz
 have e0:=JO ha hz;have e1:=JO ha1 hz1;have e2:=ZeA s1 k a (a-borrow) ha1;have hv:=h.val;rw[List.take_of_length_le (by omega:bs.length<=k),hD] at hv;have e3:1000000000^k*(a-borrow)+1000000000^k*borrow=1000000000^k*a:=by rw[<-Nat.mul_add];congr 1;omega
 have hval:gv (s1.set k (a-borrow))+g*D=gv s0:=by omega
 have hgq:g<=q:=by
  rw[hq,Nat.le_div_iff_mul_le hD0];omega
 obtain rfl:g=q:=by omega
 refine⟨rfl,?_⟩;have:=Nat.div_add_mod (gv s0) D
 rw[<-hq,Nat.mul_comm] at this;omega
theorem ZnX{s0 s1 s2 bs:List Nat}{k g q D a borrow carry:Nat}(h:DInv s0 bs g k borrow s1)(hk:bs.length=k)(hgb:Gs bs)(hD:gv bs=D)(ha:s0[k]?=some a)(hz:gv (s0.drop (k+1))=0)(hq:q=gv s0/D)(hD0:0<D)(hg1:g<=q+1)(hlt:a<borrow)
 (hp:PInv s1 bs k carry s2):g=q+1/\a+carry=borrow/\s2[k]?=some a/\gv (s2.set k 0)=gv s0%D/\Gs s2:=by
 have hkl:=(List.getElem?_eq_some_iff.1 ha).1;have ha1:s1[k]?=some a:=by rw[h.at_ k (Nat.le_refl _)];exact ha
 have ha2:s2[k]?=some a:=hp.at_ ha1
 have hz2:gv (s2.drop (k+1))=0:=by
  have h1:=congrArg (List.drop 1) h.rest;have h2:=congrArg (List.drop 1) hp.rest;rw[List.drop_drop,List.drop_drop] at h1 h2;rw[h2,h1];exact hz
 have e0:=JO ha hz;have e2:=JO ha2 hz2;have e3:=ZeA s2 k a 0 ha2;have hv:=h.val;have hv2:=hp.val;rw[List.take_of_length_le (by omega:bs.length<=k),hD] at hv hv2;have hl1:=YW (h.gs.take k);have hl2:=YW hp.gs;have hb:=YW hgb;rw[List.length_take,Nat.min_eq_left (by rw[h.len];omega)] at hl1;rw[List.length_take,Nat.min_eq_left (by rw[hp.len,h.len];omega)] at hl2;rw[hk,hD] at hb;have hbw:1000000000^k*(a+1)<=1000000000^k*borrow:=Nat.mul_le_mul_left _ hlt;rw[Nat.mul_add,Nat.mul_one] at hbw
 have hgq:q<g:=by
  rw[hq,Nat.div_lt_iff_lt_mul hD0];omega
 obtain rfl:g=q+1:=by omega
 have hdm:=Nat.div_add_mod (gv s0) D;have hml:=Nat.mod_lt (gv s0) hD0;rw[<-hq,Nat.mul_comm] at hdm;rw[Nat.add_mul,Nat.one_mul] at hv;have key:gv (s2.take k)+1000000000^k*(carry+a)=gv s0%D+1000000000^k*borrow:=by rw[Nat.mul_add];omega
 have hdiv:=congrArg (·/1000000000^k) key;have hpos:0<1000000000^k:=Nat.pow_pos (by decide);simp only[Nat.add_mul_div_left _ _ hpos,Nat.div_eq_of_lt hl2,Nat.div_eq_of_lt (Nat.lt_trans hml hb),Nat.zero_add] at hdiv;refine⟨rfl,by omega,ha2,?_,?_⟩
 ·rw[<-hdiv] at key;rw[Nat.mul_zero,Nat.add_zero] at e3;omega
 ·intro x hx;rw[<-List.take_append_drop k s2] at hx
  rcases List.mem_append.1 hx with h1|h1
  ·exact hp.gs x h1
  ·rw[hp.rest] at h1;exact h.gs x (List.mem_of_mem_drop h1)
structure QInv (U D i:Nat) (al qs:List Nat):Prop where
 gsA:Gs al
 gsQ:Gs qs
 val:gv al+1000000000^i*(D*gv (qs.drop i))=U
 rem:gv (al.drop i)<D
theorem QInv.step{U D i g:Nat}{al s' qs:List Nat}(h:QInv U D (i+1) al qs)(hi:i<qs.length)(hia:i<=al.length)(hgs:Gs s')(hg9:g<1000000000)(hg:g=gv (al.drop i)/D)(hs:gv s'=gv (al.drop i)%D):QInv U D i (al.take i++s') (qs.set i g):=by
 have hD:0<D:=by have:=h.rem;omega
 have hl:(al.take i).length=i:=by rw[List.length_take];omega
 refine⟨?_,h.gsQ.set _ hg9,?_,?_⟩
 ·intro x hx
  rcases List.mem_append.1 hx with h1|h1
  ·exact h.gsA x (List.mem_of_mem_take h1)
  ·exact hgs x h1
 ·rw[XQ hi,VU,hl,gv,<-h.val,YG al i hia];have e:gv s'+D*g=gv (al.drop i):=by rw[hs,hg,Nat.add_comm];exact Nat.div_add_mod _ _
  rw[<-e,Nat.pow_succ,Nat.mul_add D,Nat.mul_add,Nat.mul_add,Nat.mul_assoc (1000000000^i) 1000000000,Nat.mul_left_comm D 1000000000];omega
 ·rw[List.drop_left' hl,hs];exact Nat.mod_lt _ hD
theorem QInv.done{U D:Nat}{al qs:List Nat}(h:QInv U D 0 al qs):gv qs=U/D/\gv al=U%D:=by
 have hv:=h.val;have hr:=h.rem;rw[List.drop_zero] at hr;rw[Nat.pow_zero,Nat.one_mul,List.drop_zero] at hv;rw[<-hv,Nat.add_comm];exact⟨by rw[Nat.mul_add_div (by omega),Nat.div_eq_of_lt hr,Nat.add_zero],by rw[Nat.mul_add_mod,Nat.mod_eq_of_lt hr]⟩
theorem Zka{al bs:List Nat}{D k:Nat}(hD:gv bs=D)(hk:bs.length=k)(hgb:Gs bs)(h:gv (al.drop 1)<D)(hl:k+1<=al.length):gv (al.drop (k+1))=0:=by
 have hb:=YW hgb;rw[hk,hD] at hb;have e:=YG (al.drop 1) k (by rw[List.length_drop];omega);rw[List.drop_drop,Nat.add_comm 1 k] at e
 rcases Nat.eq_zero_or_pos (gv (al.drop (k+1))) with h0|h0
 ·exact h0
 ·have:1000000000^k*1<=1000000000^k*gv (al.drop (k+1)):=Nat.mul_le_mul_left _ h0
  omega
end
section
theorem Zcf{x y:Nat}(hx:x<1000000000)(hy:y<1000000000):x*y<=999999998000000001:=Nat.le_trans (Nat.mul_le_mul (show x<=999999999 by omega) (show y<=999999999 by omega)) (by decide)
theorem Zbv(A A':Option Addr)(n m c c':Nat)(xs ys:List Nat)(u v:Nat)(w:World)(hx:Gr w w.1.size A n xs)(hy:Gr w w.1.size A' m ys)(mx:Mag xs u)(my:Mag ys v)(hn:n<=1000000)(hm:m<=1000000):
 Calls Tryz.prog 164 #[.slice A n c,.slice A' m c'] w (YZ (u*v) w):=by
 have HX:=jq hx;have HY:=jq hy;have HMX:=jq mx;have HMY:=jq my;have HXN:=jq hx.1;have HYN:=jq hy.1;clear hx hy mx my;have HPO:=jq (show YZ (u*v) w=fun e w'=>∃A n c xs,e=.returned (.slice A n c)/\Own U1 1 126 w' w.1.size (.slice A n c) xs/\Mag xs (u*v)/\Below w.1.size w w' from rfl);generalize YZ (u*v) w=post at*;obtain⟨w1,hmk,ho1,hb1⟩:=Zey w w.1.size (n+m) (n+m) ((n:Int)+m) ((n:Int)+m) (by omega) (by omega) (by omega) (by omega) (Nat.le_refl _)
 have HO1:=jq ho1;clear ho1;have HT0:=jq (TOut.start xs ys);rw[<-HXN.out,<-HYN.out] at HT0;go_enter Tryz.func164,Tryz.ntmps164
 go_wp2_with fail
 clear hmk
 go_loopw [19] (fun i wr=>∃(k:Nat) (os:List Nat),k<=n/\i=.int .i64 k/\Hid (TOut xs ys k os)/\Hid (Own U1 1 126 wr w.1.size (.slice (some ⟨w.1.size,0,none⟩) (n+m) (n+m)) os)/\Below w.1.size w wr) (fun i _=>n-(intOf i).toNat)
 case atStart=>exact⟨0,_,Nat.zero_le _,rfl,HT0,HO1,hb1⟩
 case round=>
  clear HT0 HO1 hb1;obtain⟨i,os0,hi,rfl,HT,HO0,hb0⟩:=hrel
  by_cases hlt:i<n
  ·obtain⟨xb,xo,x,rfl,hxb,hxi,d0⟩:=HX.out.grp hlt
   have d0':=(hb0.cell (p:=⟨xb,xo+i,none⟩) hxb).trans d0;have hx9:=HMX.out.gs.at_ hxi;have HXI:=jq hxi;clear hxi d0;have HZ:=jq (TInv.zero (os0:=os0) (ys:=ys) (i:=i) (x:=x) HT.out.gs);go_wp2_with fail
   clear d0'
   go_loopw [8,26] (fun cy k wr=>∃(j carry:Nat) (os:List Nat),j<=m/\k=.int .i64 j/\cy=.int .u64 carry/\carry<1000000000/\Hid (TInv os0 ys i x j carry os)/\Hid (Own U1 1 126 wr w.1.size (.slice (some ⟨w.1.size,0,none⟩) (n+m) (n+m)) os)/\Below w.1.size w wr) (fun _ k _=>m-(intOf k).toNat)
   case atStart=>exact⟨0,0,os0,Nat.zero_le _,rfl,rfl,by omega,HZ,HO0,hb0⟩
   case round=>
    clear HZ HO0 hb0;obtain⟨j,carry,os,hj,rfl,rfl,hcy,HI,HO,hb⟩:=hrel
    by_cases hjm:j<m
    ·obtain⟨yb,yo,y,rfl,hyb,hyj,e0⟩:=HY.out.grp hjm
     have e0':=(hb.cell (p:=⟨yb,yo+j,none⟩) hyb).trans e0;have hy9:=HMY.out.gs.at_ hyj;obtain⟨gb,go,o,e',_,ho,f1⟩:=(HO.out.sl Qu).grp (i:=i+j) (by omega)
     injection e' with e'
     injection e' with e1 e2
     subst e1;subst e2
     simp only[Nat.zero_add] at f1;have ho9:=HI.out.gs.at_ ho;have HST:=jq (HI.out.step ho hyj hx9 HMY.out.gs);have HOK:=jq ho;have f0:=HO.out.frozen (i+j);have hp:=Zcf hx9 hy9;obtain⟨p,hpe⟩:∃p,p=x*y:=⟨_,rfl⟩
     rw[<-hpe] at hp HST;have hpi:(x:Int)*(y:Int)=(p:Int):=by rw[hpe];simp
     clear hyj ho e0 hpe;have hij:(i:Int)+(j:Int)<(n:Int)+(m:Int):=by omega
     have hij2:((i:Int)+(j:Int)).toNat=i+j:=by omega
     go_wp2_with fail
     go_roundw
     case rel=>
      have h3:=HO.out.setU (i:=i+j) (y:=(carry+(o+p))%1000000000) HOK.out;rw[show(((carry+(o+p))%1000000000:Nat):Int)=((carry:Int)+(o+p))%1000000000 by omega] at h3;refine⟨j+1,(carry+(o+p))/1000000000,os.set (i+j) ((carry+(o+p))%1000000000),by omega,by go_num,by go_num,by omega,HST,?_,?_⟩
      ·show Own _ _ _ _ _ _ _
       with_reducible exact h3
      ·with_reducible exact(hb.setCell (Nat.le_refl _) _)
     case measure=>simp[intOf];omega
    ·obtain rfl:j=m:=by omega
     rw[HYN.out] at HI
     by_cases hm0:j=0
     ·have hmd:decide (0<j)=false:=by simp[hm0]
      obtain rfl:os=os0:=HI.out.none (by rw[<-HYN.out];exact hm0);have HN:=jq (HT.out.next0 HXI.out (List.eq_nil_of_length_eq_zero (by rw[<-HYN.out];exact hm0)));clear hm0;go_wp2_with fail
      go_roundw
      case rel=>exact⟨i+1,os,by omega,by go_num,HN,HO,hb⟩
      case measure=>simp[intOf];omega
     ·have hmd:decide (0<j)=true:=by simp;omega
      have hat:=HT.out.at_ (by rw[<-HXN.out];exact hlt) HI.out;have HN:=jq (HT.out.next HXI.out HI.out);rw[<-HYN.out] at hat HN;obtain⟨gb,go,o,e',_,ho,f1⟩:=(HO.out.sl Qu).grp (i:=i+j) (by omega)
      injection e' with e'
      injection e' with e1 e2
      subst e1;subst e2
      rw[hat] at ho;injection ho with ho;subst ho;simp only[Nat.zero_add] at f1;have f0:=HO.out.frozen (i+j);have HAT:=jq hat;clear hat hm0;have hij:(i:Int)+(j:Int)<(n:Int)+(j:Int):=by omega
      have hij2:((i:Int)+(j:Int)).toNat=i+j:=by omega
      go_wp2_with fail
      go_roundw
      case rel=>
       have h3:=HO.out.setU (i:=i+j) (y:=carry) HAT.out;refine⟨i+1,os.set (i+j) carry,by omega,by go_num,HN,?_,?_⟩
       ·show Own _ _ _ _ _ _ _
        first|with_reducible exact h3|(simp only[Int.natCast_zero,Int.zero_add];exact h3)
       ·with_reducible exact(hb.setCell (Nat.le_refl _) _)
      case measure=>simp[intOf];omega
  ·obtain rfl:i=n:=by omega
   have HV:=jq (show gv os0=u*v by have:=HT.out.val;rw[List.take_of_length_le (by rw[<-HXN.out];omega),HMX.out.val,HMY.out.val] at this;exact this);have HCUT:=jq (Jo (some ⟨w.1.size,0,none⟩) (i+m) (i+m) os0 wr (HO0.out.sl Qu) (Nat.le_refl _) (by omega));go_wp2_with fail
   (with_reducible refine HCUT.out.mono ?_)
   rintro e w3 ⟨j,rfl,hj,hgv,hnz,rfl⟩;go_wp2_with fail
   rw[HPO.out];exact⟨_,j,_,os0.take j,rfl,HO0.out.shrink Qu (by rw[<-HO0.out.facts.1];exact hj),⟨HT.out.gs.take j,hnz,by rw[hgv];exact HV.out⟩,hb0⟩
end
section
def ZaL(q r:Nat)(w:World)(e:Ending)(w':World):Prop:=∃A n c xs,e=.returned (.tuple #[.slice A n c,.int .u64 r])/\Own U1 1 126 w' w.1.size (.slice A n c) xs/\Mag xs q/\Below w.1.size w w'
theorem Zcx(A:Option Addr)(n c:Nat)(xs:List Nat)(u d:Nat)(w:World)(hx:Gr w w.1.size A n xs)(gx:Gs xs)(hu:gv xs=u)(hd0:0<d)(hd:d<1000000000)(hn:n<=1000000):
 Calls Tryz.prog 163 #[.slice A n c,.int .u64 d] w (ZaL (u/d) (u%d) w):=by
 have HX:=jq hx;have HG:=jq gx;have HU:=jq hu;have HXN:=jq hx.1;clear hx gx hu;have HPO:=jq (show ZaL (u/d) (u%d) w=fun e w'=>∃A n c xs,e=.returned (.tuple #[.slice A n c,.int .u64 (u%d:Nat)])/\Own U1 1 126 w' w.1.size (.slice A n c) xs/\Mag xs (u/d)/\Below w.1.size w w' from rfl);generalize ZaL (u/d) (u%d) w=post at*;obtain⟨w1,hmk,ho1,hb1⟩:=Zey w w.1.size n n (n:Int) (n:Int) rfl rfl (by omega) (by omega) (Nat.le_refl _)
 have HO1:=jq ho1;clear ho1;have HT0:=jq (SgInv.start xs d hd0);rw[<-HXN.out] at HT0;go_enter Tryz.func163,Tryz.ntmps163
 go_wp2_with fail
 clear hmk
 go_loopw [7,8] (fun r i wr=>∃(k rest:Nat) (ii:Int) (os:List Nat),i=.int .i64 ii/\Hid (ii=(k:Int)-1)/\k<=n/\r=.int .u64 rest/\rest<d/\Hid (SgInv xs d k rest os)/\Hid (Own U1 1 126 wr w.1.size (.slice (some ⟨w.1.size,0,none⟩) n n) os)/\Below w.1.size w wr) (fun _ i _=>(intOf i+1).toNat)
 case atStart=>exact⟨n,0,_,_,rfl,by show _=_;rfl,Nat.le_refl _,rfl,hd0,HT0,HO1,hb1⟩
 case round=>
  clear HT0 HO1 hb1;obtain⟨k,rest,ii,os,rfl,HII,hk,rfl,hrd,HI,HO,hb⟩:=hrel
  by_cases hk0:k=0
  ·subst hk0;have hi0:ii<0:=by have:=HII.out;omega
   have HDN:=jq (HI.out.done HU.out);have HCUT:=jq (Jo (some ⟨w.1.size,0,none⟩) n n os wr (HO.out.sl Qu) (Nat.le_refl _) (by omega));go_wp2_with fail
   (with_reducible refine HCUT.out.mono ?_)
   rintro e w3 ⟨j,rfl,hj,hgv,hnz,rfl⟩;go_wp2_with fail
   rw[HPO.out];exact⟨_,j,_,os.take j,by rw[HDN.out.2.2];rfl,HO.out.shrink Qu (by rw[<-HO.out.facts.1];exact hj),⟨HDN.out.1.take j,hnz,by rw[hgv];exact HDN.out.2.1⟩,hb⟩
  ·obtain⟨i,rfl⟩:∃i,k=i+1:=⟨k-1,by omega⟩
   obtain rfl:ii=(i:Int):=by have:=HII.out;omega
   obtain⟨xb,xo,x,rfl,hxb,hxi,d0⟩:=HX.out.grp (i:=i) (by omega)
   have d0':=(hb.cell (p:=⟨xb,xo+i,none⟩) hxb).trans d0;have hx9:=HG.out.at_ hxi;have HST:=jq (HI.out.step hxi HG.out hd);obtain⟨gb,go,o,e',_,ho,f1⟩:=(HO.out.sl Qu).grp (i:=i) (by omega)
   injection e' with e'
   injection e' with e1 e2
   subst e1;subst e2
   simp only[Nat.zero_add] at f1;have HOK:=jq ho;have f0:=HO.out.frozen i;clear ho d0 hxi;obtain⟨X,hX⟩:∃X:Nat,X=rest*1000000000+x:=⟨_,rfl⟩
   have hXi:(rest:Int)*1000000000+(x:Int)=(X:Int):=by rw[hX];simp
   have hXl:X<1000000000000000000:=by omega
   rw[<-hX] at HST;have hq:(X:Int)/(d:Int)=((X/d:Nat):Int):=by simp
   have hr:(X:Int)% (d:Int)=((X%d:Nat):Int):=by simp
   have hql:X/d<=X:=Nat.div_le_self _ _;have hrl:X%d<d:=Nat.mod_lt _ hd0;have hdn:((d:Int)==0)=false:=by simp;omega
   clear hX;generalize X/d=q at*;generalize X%d=r at*;go_wp2_with fail
   go_roundw
   case rel=>
    have h3:=HO.out.setU (i:=i) (y:=q) HOK.out;refine⟨i,r,(i:Int)-1,os.set i q,rfl,by show _=_;rfl,by omega,by rw[hr],hrl,HST,?_,?_⟩
    ·show Own _ _ _ _ _ _ _
     with_reducible exact h3
    ·with_reducible exact(hb.setCell (Nat.le_refl _) _)
   case measure=>simp[intOf]
end
section
def YD(q r:Nat)(w:World)(e:Ending)(w':World):Prop:=
 ∃A1 n1 c1 qs A2 n2 c2 rs,e=.returned (.tuple #[.slice A1 n1 c1,.slice A2 n2 c2])/\Gr w' w'.1.size A1 n1 qs/\n1<=c1/\Mag qs q/\Gr w' w'.1.size A2 n2 rs/\n2<=c2/\Mag rs r/\Below w.1.size w w'
theorem ZfF(A A':Option Addr)(n m c c':Nat)(xs ys:List Nat)(u v:Nat)(w:World)(hx:Gr w w.1.size A n xs)(hy:Gr w w.1.size A' m ys)(mx:Mag xs u)(my:Mag ys v)(hn:n<=1000000)(hm:m<=1000000)(hc:n<=c)(huv:u<v):
 Calls Tryz.prog 107 #[.slice A n c,.slice A' m c'] w (YD (u/v) (u%v) w):=by
 have HCM:=jq (YO A A' n m c c' xs ys u v w hx hy mx my hn hm);have HX:=jq hx;have HMX:=jq mx;clear hx hy mx my;have HPO:=jq (show YD (u/v) (u%v) w=fun e w'=>∃A1 n1 c1 qs A2 n2 c2 rs,e=.returned (.tuple #[.slice A1 n1 c1,.slice A2 n2 c2])/\Gr w' w'.1.size A1 n1 qs/\n1<=c1/\Mag qs (u/v)/\Gr w' w'.1.size A2 n2 rs/\n2<=c2/\Mag rs (u%v)/\Below w.1.size w w' from rfl);generalize YD (u/v) (u%v) w=post at*;go_enter Tryz.func107,Tryz.ntmps107
 go_wp2_with fail
 (with_reducible refine HCM.out.mono ?_)
 rintro e w1 ⟨r,rfl,hr1,hr2,_,_,hb1⟩;have hr:r<0:=hr1.2 huv;clear hr1 hr2;go_wp2_with fail
 rw[HPO.out];refine⟨none,0,0,[],A,n,c,xs,rfl,Sl.nil,Nat.le_refl _,?_,HX.out.here hb1,hc,?_,hb1⟩
 ·rw[Nat.div_eq_of_lt huv];exact Mag.zero
 ·rw[Nat.mod_eq_of_lt huv];exact HMX.out
theorem ZgZ(A A':Option Addr)(n c c':Nat)(xs ys:List Nat)(u v:Nat)(w:World)(hx:Gr w w.1.size A n xs)(hy:Gr w w.1.size A' 1 ys)(mx:Mag xs u)(my:Mag ys v)(hn:n<=1000000)(huv:v<=u):
 Calls Tryz.prog 107 #[.slice A n c,.slice A' 1 c'] w (YD (u/v) (u%v) w):=by
 have HCM:=jq (YO A A' n 1 c c' xs ys u v w hx hy mx my hn (by omega));obtain⟨yb,yo,y,rfl,hyb,hy0,d0⟩:=hy.grp (i:=0) (by omega)
 have hyv:ys=[y]:=by
  have hl:=hy.1
  cases ys with
  |nil=>simp at hl
  |cons a t=>
   cases t with
   |nil=>simp at hy0;rw[hy0]
   |cons _ _=>simp at hl
 have hv:v=y:=by rw[<-my.val,hyv];simp[gv]
 subst hv;have hv9:=my.gs.at_ hy0
 have hv0:0<v:=by
  rcases Nat.eq_zero_or_pos v with h|h
  ·have:=my.nil_iff.2 h;rw[hyv] at this;simp at this
  ·exact h
 have HX:=jq hx;have HMX:=jq mx;have HD:=jq d0;clear hx hy mx my hyv hy0 d0;have HPO:=jq (show YD (u/v) (u%v) w=fun e w'=>∃A1 n1 c1 qs A2 n2 c2 rs,e=.returned (.tuple #[.slice A1 n1 c1,.slice A2 n2 c2])/\Gr w' w'.1.size A1 n1 qs/\n1<=c1/\Mag qs (u/v)/\Gr w' w'.1.size A2 n2 rs/\n2<=c2/\Mag rs (u%v)/\Below w.1.size w w' from rfl);generalize YD (u/v) (u%v) w=post at*;go_enter Tryz.func107,Tryz.ntmps107
 go_wp2_with fail
 (with_reducible refine HCM.out.mono ?_)
 rintro e w1 ⟨r,rfl,hr1,hr2,_,_,hb1⟩;have hr:¬r<0:=fun h=>by have:=hr1.1 h;omega
 have hrd:decide (r<0)=false:=by simpa using hr
 clear hr1 hr2 hr;have d1:=(hb1.cell (p:=⟨yb,yo+0,none⟩) hyb).trans HD.out;rw[Nat.add_zero] at d1;go_wp2_with fail
 (with_reducible refine(Zcx A n c xs u v w1 (HX.out.here hb1) HMX.out.gs HMX.out.val hv0 hv9 hn).mono ?_)
 rintro e w2 ⟨A1,n1,c1,zs,rfl,ho2,mg2,hb2⟩;have HO2:=jq ho2;have HM2:=jq mg2;have hb02:=hb1.trans (hb2.mono hb1.size);clear ho2 mg2 d1;have hr9:u%v<v:=Nat.mod_lt _ hv0;have HSL:=jq (Sl.lit w2 #[.int .u64 (u%v:Nat)] 126 [u%v] rfl Qu);generalize u%v=rr at*;have HCUT:=jq (Jo (some ⟨w2.1.size,0,none⟩) 1 1 [rr] (w2.alloc (.cells #[.int .u64 rr] 126)) (by have:=HSL.out;simpa using this) (Nat.le_refl _) (by omega));go_wp2_with fail
 (with_reducible refine HCUT.out.mono ?_)
 rintro e w3 ⟨j,rfl,hj,hgv,hnz,rfl⟩;go_wp2_with fail
 rw[HPO.out];refine⟨A1,n1,c1,zs,_,j,1,[rr].take j,rfl,(HO2.out.alloc _).sl Qu,?_,HM2.out,?_,hj,⟨?_,hnz,by rw[hgv];simp[gv]⟩,hb02.alloc hb02.size _⟩
 ·obtain⟨h1,h2,_⟩:=HO2.out.facts;omega
 ·have:=HSL.out.take (m:=j) hj
  simpa using this
 ·refine Gs.take (fun x hx=> ?_) j;simp at hx;omega
end
section
theorem ZaM{pre s:List Nat}{i j:Nat}(h:pre.length=i):(pre++s)[i+j]?=s[j]?:=by
 rw[List.getElem?_append_right (by omega)]
 congr 1
 omega
theorem ZeB{pre s:List Nat}{i j d:Nat}(h:pre.length=i):(pre++s).set (i+j) d=pre++s.set j d:=by
 rw[List.set_append_right _ _ (by omega)]
 congr 2
 omega
structure DSt (w:World) (ga gb gq La ca k cb Lq:Nat) (al bs ql:List Nat) (wr:World):Prop where
 a:Own U1 1 126 wr w.1.size (.slice (some ⟨ga,0,none⟩) La ca) al
 b:Own U1 1 126 wr w.1.size (.slice (some ⟨gb,0,none⟩) k cb) bs
 q:Own U1 1 126 wr w.1.size (.slice (some ⟨gq,0,none⟩) Lq Lq) ql
 ab:ga≠gb
 aq:ga≠gq
 bq:gb≠gq
 wa:w.1.size<=ga
 wq:w.1.size<=gq
 bl:Below w.1.size w wr
section
variable {w wr:World} {ga gb gq La ca k cb Lq:Nat} {al bs ql:List Nat}
theorem Own.cellU{wr:World}{base g n c:Nat}{xs:List Nat}(h:Own U1 1 126 wr base (.slice (some ⟨g,0,none⟩) n c) xs){i x:Nat}(hi:xs[i]?=some x):wr.cell? ⟨g,i,none⟩=some (.int .u64 x):=by
 have hl:=(List.getElem?_eq_some_iff.1 hi).1;obtain⟨b,o,y,e,_,hy,hc⟩:=(h.sl Qu).grp (i:=i) (by rw[h.facts.1];exact hl)
 injection e with e;injection e with e1 e2;subst e1;subst e2
 rw[hi] at hy;injection hy with hy;subst hy;simpa using hc
theorem DSt.setA(h:DSt w ga gb gq La ca k cb Lq al bs ql wr){i x y:Nat}(hi:al[i]?=some x):DSt w ga gb gq La ca k cb Lq (al.set i y) bs ql (wr.setCell ⟨ga,i,none⟩ (.int .u64 y)):=
 ⟨h.a.setU hi,h.b.far (by simp[Value.ownBlock];exact fun e=>h.ab e.symm) _,h.q.far (by simp[Value.ownBlock];exact fun e=>h.aq e.symm) _,h.ab,h.aq,h.bq,h.wa,h.wq,h.bl.setCell h.wa _⟩
theorem DSt.setQ(h:DSt w ga gb gq La ca k cb Lq al bs ql wr){i x y:Nat}(hi:ql[i]?=some x):DSt w ga gb gq La ca k cb Lq al bs (ql.set i y) (wr.setCell ⟨gq,i,none⟩ (.int .u64 y)):=
 ⟨h.a.far (by simp[Value.ownBlock];exact h.aq) _,h.b.far (by simp[Value.ownBlock];exact h.bq) _,h.q.setU hi,h.ab,h.aq,h.bq,h.wa,h.wq,h.bl.setCell h.wq _⟩
theorem DSt.drewN(h:DSt w ga gb gq La ca k cb Lq al bs ql wr)(t:Nat):DSt w ga gb gq La ca k cb Lq al bs ql (wr.drewN t):=
 ⟨h.a.drewN t,h.b.drewN t,h.q.drewN t,h.ab,h.aq,h.bq,h.wa,h.wq,bdN h.bl t⟩
theorem DSt.drew(h:DSt w ga gb gq La ca k cb Lq al bs ql wr):DSt w ga gb gq La ca k cb Lq al bs ql wr.drew:=
 ⟨h.a.drew,h.b.drew,h.q.drew,h.ab,h.aq,h.bq,h.wa,h.wq,h.bl.drew⟩
end
theorem QInv.start{ps bs:List Nat}{U D k Lq:Nat}(hp:Mag ps U)(hb:Mag bs D)(hDU:D<=U)(hk:bs.length=k)(hk2:2<=k)(hL:Lq+k=ps.length+2):QInv U D Lq (ps++[0,0]) (List.replicate Lq 0):=by
 have hlen:k<=ps.length:=by
  rcases Nat.lt_or_ge ps.length k with h|h
  ·have:=Xn hp hb (by omega);omega
  ·exact h
 refine⟨(hp.gs.snoc (by omega:0<1000000000)).snoc (by omega:0<1000000000) |> (by simpa using ·),ZfC _,?_,?_⟩
 ·rw[List.drop_of_length_le (by simp),VU,hp.val];simp[gv]
 ·rw[List.drop_append_of_le_length (by omega),VU];have h1:=YW (show Gs (ps.drop Lq) from fun x hx=>hp.gs x (List.mem_of_mem_drop hx));rw[List.length_drop] at h1;have h2:=Zbq (fun e=>by rw[e] at hk;simp at hk;omega) hb.nz;rw[hb.val,hk] at h2;have h3:1000000000^(ps.length-Lq)<=1000000000^(k-1):=Nat.pow_le_pow_right (by omega) (by omega);simp[gv]
  omega
theorem Zms{s:List Nat}{k ak a2 a3:Nat}(h0:s[k+2]?=some ak)(h1:s[k+1]?=some a2)(h2:s[k]?=some a3)(hz:gv (s.drop (k+2+1))=0):
 gv s=1000000000^k*((ak*1000000000+a2)*1000000000+a3)+gv (s.take k):=by
 have hk:=(List.getElem?_eq_some_iff.1 h2).1;rw[YG s k (by omega),XK s k a3 h2,XK s (k+1) a2 h1,XK s (k+2) ak h0,hz,Nat.mul_zero,Nat.add_zero,Nat.add_comm]
 congr 2
 omega
theorem Zmt{bs:List Nat}{k b1 b2:Nat}(hl:bs.length=k+2)(h1:bs[k+1]?=some b1)(h2:bs[k]?=some b2):gv bs=1000000000^k*(b1*1000000000+b2)+gv (bs.take k):=by
 rw[YG bs k (by omega),XK bs k b2 h2,XK bs (k+1) b1 h1,List.drop_of_length_le (by omega)];simp only[gv,Nat.mul_zero,Nat.add_zero];rw[Nat.add_comm]
 congr 2
 omega
theorem Mag.top_ne{bs:List Nat}{D k b1:Nat}(h:Mag bs D)(hl:bs.length=k+1)(h1:bs[k]?=some b1):1<=b1:=by
 rcases Nat.eq_zero_or_pos b1 with h0|h0
 ·exfalso
  subst h0
  apply h.nz
  rw[List.getLast?_eq_getElem?,hl];exact h1
 ·exact h0
theorem Zcy{s:List Nat}{k:Nat}(h:Gs s)(hk:k<=s.length):gv (s.take k)<1000000000^k:=by
 have:=YW (h.take k)
 rwa [List.length_take,Nat.min_eq_left hk] at this
end
section
theorem Mag.one{s:Nat}(h0:1<=s)(h9:s<1000000000):Mag [s] s:=
 ⟨fun x hx=>by simp at hx;omega,by unfold Nz;simp;omega,by simp[gv]⟩
theorem Zo5{s0 s1 bs:List Nat}{k g q D a borrow:Nat}(h:DInv s0 bs g k borrow s1)(hk:bs.length=k)(hD:gv bs=D)(ha:s0[k]?=some a)(hz:gv (s0.drop (k+1))=0)(hq:q=gv s0/D)(hD0:0<D)(hg1:g<=q+1)(hlt:a<borrow):g=q+1:=by
 have hkl:=(List.getElem?_eq_some_iff.1 ha).1;have e0:=JO ha hz;have hv:=h.val;rw[List.take_of_length_le (by omega:bs.length<=k),hD] at hv;have hl1:=YW (h.gs.take k);rw[List.length_take,Nat.min_eq_left (by rw[h.len];omega)] at hl1;have hbw:1000000000^k*(a+1)<=1000000000^k*borrow:=Nat.mul_le_mul_left _ hlt;rw[Nat.mul_add,Nat.mul_one] at hbw
 have hgq:q<g:=by
  rw[hq,Nat.div_lt_iff_lt_mul hD0];omega
 omega
theorem ZfG(A A':Option Addr)(n m c c':Nat)(xs ys:List Nat)(u v:Nat)(w:World)(hx:Gr w w.1.size A n xs)(hy:Gr w w.1.size A' m ys)(mx:Mag xs u)(my:Mag ys v)(hn:n<=100000)(hm:m<=100000)(hm2:2<=m)(huv:v<=u):
 Calls Tryz.prog 107 #[.slice A n c,.slice A' m c'] w (YD (u/v) (u%v) w):=by
 have HCM:=jq (YO A A' n m c c' xs ys u v w hx hy mx my (by omega) (by omega));obtain⟨m1,rfl⟩:∃m1,m=m1+1:=⟨m-1,by omega⟩
 obtain⟨yb,yo,yt,rfl,hyb,hyt,d0⟩:=hy.grp (i:=m1) (by omega)
 have hyt9:=my.gs.at_ hyt;have hyt1:=my.top_ne hy.1.symm hyt;have HX:=jq hx;have HMX:=jq mx;have HY:=jq hy;have HMY:=jq my;have HD:=jq d0;have HXN:=jq hx.1;have HYN:=jq hy.1;clear hx hy mx my hyt d0;have HPO:=jq (show YD (u/v) (u%v) w=fun e w'=>∃A1 n1 c1 qs A2 n2 c2 rs,e=.returned (.tuple #[.slice A1 n1 c1,.slice A2 n2 c2])/\Gr w' w'.1.size A1 n1 qs/\n1<=c1/\Mag qs (u/v)/\Gr w' w'.1.size A2 n2 rs/\n2<=c2/\Mag rs (u%v)/\Below w.1.size w w' from rfl);generalize YD (u/v) (u%v) w=post at*;obtain⟨sc,hsc⟩:∃sc,sc=1000000000/(yt+1):=⟨_,rfl⟩
 have hsc1:1<=sc:=by rw[hsc];exact(Nat.le_div_iff_mul_le (by omega)).2 (by omega)
 have hsc9:sc<1000000000:=by rw[hsc];exact Nat.div_lt_self (by omega) (by omega)
 have hsi:(1000000000:Int)/((yt:Int)+1)=(sc:Int):=by rw[hsc];simp
 clear hsc;have HMS:=jq (Mag.one hsc1 hsc9);go_enter Tryz.func107,Tryz.ntmps107
 go_wp2_with fail
 (with_reducible refine HCM.out.mono ?_)
 rintro e w1 ⟨r,rfl,hr1,hr2,_,_,hb1⟩;have hr:¬r<0:=fun h=>by have:=hr1.1 h;omega
 have hrd:decide (r<0)=false:=by simpa using hr
 clear hr1 hr2 hr HCM;have d1:=(hb1.cell (p:=⟨yb,yo+m1,none⟩) hyb).trans HD.out;have hm1b:(((m1+1:Nat):Int)==1)=false:=by simp;omega
 have hm1c:((m1:Int)+1==1)=false:=by simp;omega
 have j1:(((m1+1:Nat):Int)-1).toNat=m1:=by omega
 have hy1:((yt:Int)+1==0)=false:=by simp;omega
 go_wp2_with fail
 have hbA:Below w1.1.size w1 (w1.alloc (.cells #[.int .u64 sc] 126)):=(Below.refl _ _).alloc (Nat.le_refl _) _;have HXA:=jq ((HX.out.here hb1).here hbA)
 have HSA:=jq (show Gr (w1.alloc (.cells #[.int .u64 sc] 126)) (w1.alloc (.cells #[.int .u64 sc] 126)).heap.size (some ⟨w1.1.size,0,none⟩) 1 [sc] by
  have:=Sl.lit w1 #[.int .u64 sc] 126 [sc] rfl Qu;simpa using this)
 have hb2:=hb1.trans (hbA.mono hb1.size);generalize w1.alloc _=W2 at*
 (with_reducible refine(Zbv A (some ⟨w1.1.size,0,none⟩) n 1 c 1 xs [sc] u sc W2 HXA.out HSA.out HMX.out HMS.out (by omega) (by omega)).mono ?_)
 rintro e w3 ⟨Aa,na,ca,ps,rfl,oa,mga,hb3⟩;have HOa:=jq oa;have HMP:=jq mga;have HNa:=jq oa.facts.1;have hb03:=hb2.trans (hb3.mono hb2.size);clear oa mga HXA HSA d1 j1 hm1b hm1c hy1 hrd
 have hps:ps.length<=200000:=by
  have h1:=YW HMX.out.gs;rw[HMX.out.val,<-HXN.out] at h1
  have h2:u*sc<1000000000^(n+1):=by
   rw[Nat.pow_succ];exact Nat.lt_of_le_of_lt (Nat.mul_le_mul_left u (Nat.le_of_lt hsc9)) (Nat.mul_lt_mul_of_pos_right h1 (by omega))
  have:=HMP.out.len h2
  omega
 go_wp2_with (at_builtin;refine Xa _ rfl (.tmp 55) (.tmp 56) _ rfl Zce Qu Zex (base:=W2.1.size) (.slice Aa na ca) ps rfl (HOa.out.alloc _) _ _ 2 2 [0,0] rfl (Sl.lit w3 #[.int .u64 0,.int .u64 0] 126 [0,0] rfl Qu) (by omega) (by have:=hb3.size;simp;omega) ?_;intro A4 c4 w4 ho4 hg4 hat4)
 have hb4:Below w.1.size w w4:=Qy (hb03.alloc hb03.size _) hg4 (by have:=hb03.size;simp;omega) (fun g' e=>by
  rcases HOa.out.facts.2.2.2 with ⟨h,_⟩|⟨g,h,hg1,hg2⟩
  ·rw[h] at e;simp[Value.ownBlock] at e
  ·rw[h] at e;simp[Value.ownBlock] at e;have:=hb2.size;omega)
 obtain⟨ga,hga⟩:∃ga,A4=some ⟨ga,0,none⟩:=by
  rcases ho4.facts.2.2.2 with ⟨_,_,h⟩|⟨g,h,_⟩
  ·have:=congrArg List.length h;simp at this
  ·exact⟨g,h⟩
 subst hga
 have hgaw:w.1.size<=ga/\ga<w4.1.size:=by
  rcases ho4.facts.2.2.2 with ⟨h,_⟩|⟨g,h,hg1,hg2⟩
  ·cases h
  ·injection h with h;injection h with h;subst h;have:=hb2.size;omega
 obtain⟨La,hLa⟩:∃La,ps.length+2=La:=⟨_,rfl⟩
 rw[hLa] at ho4;have HLa:=jq hLa;have hLa2:La<=200002:=by omega
 have hca:=ho4.facts.2.1;have hal:=ho4.facts.1;rw[<-hal] at hca;have HO4:=jq (ho4.base_ (hb2.size:w.1.size<=W2.1.size));simp only[hLa];clear ho4 hg4 hat4 hal hLa HOa hbA hb2 hb3 hb03;have hbB:Below w4.1.size w4 (w4.alloc (.cells #[.int .u64 sc] 126)):=(Below.refl _ _).alloc (Nat.le_refl _) _;have HYB:=jq ((HY.out.here hb4).here hbB)
 have HSB:=jq (show Gr (w4.alloc (.cells #[.int .u64 sc] 126)) (w4.alloc (.cells #[.int .u64 sc] 126)).heap.size (some ⟨w4.1.size,0,none⟩) 1 [sc] by
  have:=Sl.lit w4 #[.int .u64 sc] 126 [sc] rfl Qu;simpa using this)
 have hb5:=hb4.trans (hbB.mono hb4.size);have HO5:=jq (HO4.out.below hbB);have hs5:=hbB.size;generalize w4.alloc _=W5 at*
 (with_reducible refine(Zbv _ (some ⟨w4.1.size,0,none⟩) (m1+1) 1 c' 1 ys [sc] v sc W5 HYB.out HSB.out HMY.out HMS.out (by omega) (by omega)).mono ?_)
 rintro e w6 ⟨Ab,k,cb,bs,rfl,ob,mgb,hb6⟩;have hkb:=ob.facts.1;have HMB:=jq mgb
 have hk2:2<=k:=by
  rw[hkb]
  rcases Nat.lt_or_ge bs.length ys.length with h|h
  ·have h1:=Xn mgb HMY.out h;have:v*1<=v*sc:=Nat.mul_le_mul_left v hsc1
   omega
  ·have:=HYN.out;omega
 have hkp:k<=ps.length:=by
  rw[hkb]
  rcases Nat.lt_or_ge ps.length bs.length with h|h
  ·have h1:=Xn HMP.out mgb h;have:=Nat.mul_le_mul_right sc huv
   omega
  ·exact h
 obtain⟨gb,hgb⟩:∃gb,Ab=some ⟨gb,0,none⟩:=by
  rcases ob.facts.2.2.2 with ⟨_,_,h⟩|⟨g,h,_⟩
  ·rw[h] at hkb;simp at hkb;omega
  ·exact⟨g,h⟩
 subst hgb
 have hgbw:W5.1.size<=gb/\gb<w6.1.size:=by
  rcases ob.facts.2.2.2 with ⟨h,_⟩|⟨g,h,hg1,hg2⟩
  ·cases h
  ·injection h with h;injection h with h;subst h;omega
 have HKB:=jq hkb;have HOB:=jq (ob.base_ hb5.size);have hb06:=hb5.trans (hb6.mono hb5.size);have HO6:=jq (HO5.out.below hb6);clear ob mgb hkb HYB HSB HO4 HO5 hbB;obtain⟨Lq,hLq⟩:∃Lq,Lq+k=La:=⟨La-k,by have:=HLa.out;omega⟩
 have hLqi:(La:Int)-(k:Int)=(Lq:Int):=by omega
 obtain⟨w7,hmk,ho7,hb7⟩:=Zey w6 w.1.size Lq Lq (Lq:Int) (Lq:Int) rfl rfl (by omega) (by omega) hb06.size
 have HQ0:=jq (QInv.start HMP.out HMB.out (Nat.mul_le_mul_right sc huv) HKB.out.symm hk2 (by have:=HLa.out;omega:Lq+k=ps.length+2))
 have HDS:=jq (show DSt w ga gb w6.1.size La c4 k cb Lq (ps++[0,0]) bs (List.replicate Lq 0) w7 from
  ⟨HO6.out.below hb7,HOB.out.below hb7,ho7,by omega,by have:=hb6.size;omega,by omega,hgaw.1,hb06.size,hb06.trans (hb7.mono hb06.size)⟩)
 have HAL:=jq (show(ps++[0,0]).length=La by rw[List.length_append];exact HLa.out);have HLQ:=jq hLq;have HKP:=jq hkp;have hkLa:k<=La:=by omega
 have hLqa:Lq<=La:=by omega
 have hlq1:1<=Lq:=by have:=HLa.out;omega
 clear hLq ho7 HO6 HOB hb06 hb6 hb5 hb4 hb1 hs5 hgbw hgaw hkp hps HD HX HY HMP;generalize hDv:v*sc=D at*;generalize hUv:u*sc=U at*;have HDV:=jq hDv;have HUV:=jq hUv;clear hDv hUv;generalize ps++[0,0]=al0 at*;generalize w6.1.size=gq at*;go_wp2_with fail
 clear hmk hb7
 go_loopw [13] (fun i wr=>∃(j:Nat) (ii:Int) (al ql:List Nat),i=.int .i64 ii/\Hid (ii=(j:Int)-1)/\j<=Lq/\Hid (al.length=La)/\Hid (ql.length=Lq)/\Hid (QInv U D j al ql)/\Hid (DSt w ga gb gq La c4 k cb Lq al bs ql wr)) (fun i _=>(intOf i+1).toNat)
 case atStart=>exact⟨Lq,_,al0,_,rfl,by show _=_;rfl,Nat.le_refl _,HAL,by show _=_;simp,HQ0,HDS⟩
 case round=>
  clear HAL HQ0 HDS;obtain⟨j,ii,al,ql,rfl,HII,hj,HAL,HQL,HQ,HDS⟩:=hrel
  by_cases hj0:j=0
  ·subst hj0;have hi0:ii<0:=by have:=HII.out;omega
   have hkc:k<=c4:=by omega
   have HDN:=jq HQ.out.done;have HGA:=jq HDS.out.a;have HGQ:=jq HDS.out.q;have hbl:=HDS.out.bl
   have HTK:=jq (show gv (al.take k)=U%D by
    have h1:=HDN.out.2;have h2:=YW HMB.out.gs;rw[HMB.out.val,<-HKB.out] at h2;have h3:=HQ.out.rem;rw[List.drop_zero] at h3;rw[<-h1];have h4:=YG al k (by rw[HAL.out];omega)
    rcases Nat.eq_zero_or_pos (gv (al.drop k)) with h0|h0
    ·rw[h0] at h4;omega
    ·have:1000000000^k*1<=1000000000^k*gv (al.drop k):=Nat.mul_le_mul_left _ h0
     omega)
   have HCUT:=jq (Jo (some ⟨ga,0,none⟩) k c4 (al.take k) wr ((HGA.out.sl Qu).take hkLa) hkc (by omega));go_wp2_with fail
   (with_reducible refine HCUT.out.mono ?_)
   rintro e w8 ⟨t,rfl,ht,hgv,hnz,rfl⟩;have HSG:=jq (Zcx (some ⟨ga,0,none⟩) t c4 ((al.take k).take t) (U%D) sc wr (((HGA.out.sl Qu).take hkLa).take ht) ((HQ.out.gsA.take k).take t) (by rw[hgv];exact HTK.out) (by omega) hsc9 (by omega));clear hgv hnz HCUT;go_wp2_with fail
   (with_reducible refine HSG.out.mono ?_)
   rintro e w9 ⟨Ar,nr,cr,rs,rfl,or_,mgr,hb9⟩;have HOR:=jq or_;have HMR:=jq mgr;have HG9:=jq (HGQ.out.below hb9);have HCUT:=jq (Jo (some ⟨gq,0,none⟩) Lq Lq ql w9 (HG9.out.sl Qu) (Nat.le_refl _) (by omega));clear or_ mgr HSG;go_wp2_with fail
   (with_reducible refine HCUT.out.mono ?_)
   rintro e w10 ⟨t',rfl,ht',hgv',hnz',rfl⟩;go_wp2_with fail
   rw[HPO.out];refine⟨_,t',_,ql.take t',_,nr,cr,rs,rfl,(HG9.out.sl Qu).take ht',ht',⟨HQ.out.gsQ.take _,hnz',?_⟩,HOR.out.sl Qu,?_,?_,hbl.trans (hb9.mono hbl.size)⟩
   ·rw[hgv',HDN.out.1,<-HUV.out,<-HDV.out,Nat.mul_div_mul_right _ _ (by omega)]
   ·obtain⟨h1,h2,_⟩:=HOR.out.facts;omega
   ·have:=HMR.out
    rwa [<-HUV.out,<-HDV.out,Nat.mul_mod_mul_right,Nat.mul_div_cancel _ (by omega)] at this
  ·obtain⟨i,rfl⟩:∃i,j=i+1:=⟨j-1,by omega⟩
   obtain rfl:ii=(i:Int):=by have:=HII.out;omega
   obtain⟨k2,hk2e⟩:∃k2,k=k2+2:=⟨k-2,by omega⟩
   have hwl:i+k<La:=by have:=HLQ.out;omega
   obtain⟨p0,hp0⟩:∃p0,p0=i+k:=⟨_,rfl⟩
   obtain⟨p1,hp1⟩:∃p1,p1=i+(k2+1):=⟨_,rfl⟩
   obtain⟨p2,hp2⟩:∃p2,p2=i+k2:=⟨_,rfl⟩
   obtain⟨q1,hq1⟩:∃q1,q1=k2+1:=⟨_,rfl⟩
   obtain⟨ak,hak⟩:∃x,al[i+k]?=some x:=⟨_,List.getElem?_eq_getElem (by rw[HAL.out];omega)⟩
   obtain⟨a2,ha2⟩:∃x,al[i+(k2+1)]?=some x:=⟨_,List.getElem?_eq_getElem (by rw[HAL.out];omega)⟩
   obtain⟨a3,ha3⟩:∃x,al[i+k2]?=some x:=⟨_,List.getElem?_eq_getElem (by rw[HAL.out];omega)⟩
   obtain⟨b1,hb1⟩:∃x,bs[k2+1]?=some x:=⟨_,List.getElem?_eq_getElem (by rw[<-HKB.out];omega)⟩
   obtain⟨b2,hb2⟩:∃x,bs[k2]?=some x:=⟨_,List.getElem?_eq_getElem (by rw[<-HKB.out];omega)⟩
   have hak9:=HQ.out.gsA.at_ hak;have ha29:=HQ.out.gsA.at_ ha2;have ha39:=HQ.out.gsA.at_ ha3;have hb19:=HMB.out.gs.at_ hb1;have hb29:=HMB.out.gs.at_ hb2;have hb11:=HMB.out.top_ne (by rw[<-HKB.out,hk2e]) hb1;have HC0:=jq (HDS.out.a.cellU hak);have HC1:=jq (HDS.out.a.cellU ha2);have HC2:=jq (HDS.out.a.cellU ha3);have HE1:=jq (HDS.out.b.cellU hb1);have HE2:=jq (HDS.out.b.cellU hb2);have HBQ:=jq hb1;have HB2:=jq hb2;have HA3:=jq ha3;have HA0:=jq hak;rw[<-hp0] at HC0;rw[<-hp1] at HC1;rw[<-hp2] at HC2;rw[<-hq1] at HE1 HBQ;rw[<-hp2] at HA3;rw[<-hp0] at HA0
   obtain⟨pre,hpre⟩:∃pre,al.take i=pre:=⟨_,rfl⟩
   obtain⟨s0,hs0⟩:∃s0,al.drop i=s0:=⟨_,rfl⟩
   have hpl:pre.length=i:=by rw[<-hpre,List.length_take,HAL.out];omega
   have hals:al=pre++s0:=by rw[<-hpre,<-hs0,List.take_append_drop]
   have hsl:s0.length=La-i:=by rw[<-hs0,List.length_drop,HAL.out]
   have HSK:=jq (show s0[k]?=some ak by rw[hals,ZaM hpl] at hak;exact hak);have hS2:s0[k2+1]?=some a2:=by rw[hals,ZaM hpl] at ha2;exact ha2
   have hS3:s0[k2]?=some a3:=by rw[hals,ZaM hpl] at ha3;exact ha3
   have hgs0:Gs s0:=fun x hx=>HQ.out.gsA x (by rw[hals];exact List.mem_append_right _ hx)
   have HZ:=jq (show gv (s0.drop (k+1))=0 from Zka HMB.out.val HKB.out.symm HMB.out.gs (by have:=HQ.out.rem;rw[<-hs0,List.drop_drop];exact this) (by omega));have hWt:=Zms (k:=k2) (by rw[<-hk2e];exact HSK.out) hS2 hS3 (by rw[<-hk2e];exact HZ.out);have hDt:=Zmt (by rw[<-HKB.out,hk2e]) hb1 hb2;rw[HMB.out.val] at hDt;have hwlo:=Zcy (k:=k2) hgs0 (by omega);have hdlo:=Zcy (k:=k2) HMB.out.gs (by rw[<-HKB.out];omega);have hD0:0<D:=by have:=HQ.out.rem;omega
   obtain⟨q,hq⟩:∃q,q=gv s0/D:=⟨_,rfl⟩
   have hqle:q*D<=gv s0:=by rw[hq];exact Nat.div_mul_le_self _ _
   have hqlt:gv s0<(q+1)*D:=by
    have h1:=Nat.div_add_mod (gv s0) D;have h2:=Nat.mod_lt (gv s0) hD0;rw[Nat.mul_comm,<-hq] at h1;rw[Nat.add_mul,Nat.one_mul];omega
   have hq9:q<1000000000:=by
    rw[hq,Nat.div_lt_iff_lt_mul hD0];have h1:=HQ.out.rem;have hx:∃x0,s0[0]?=some x0:=⟨_,List.getElem?_eq_getElem (by omega)⟩;obtain⟨x0,hx0⟩:=hx
    have h2:=XK s0 0 x0 hx0;rw[List.drop_zero] at h2;have h3:al.drop (i+1)=s0.drop (0+1):=by rw[<-hs0,List.drop_drop]
    rw[h3] at h1;have h4:=hgs0.at_ hx0;omega
   obtain⟨top,htop⟩:∃top,ak*1000000000+a2=top:=⟨_,rfl⟩
   rw[htop] at hWt;have HGF:=jq (ZfD hWt hDt ha39 hwlo hqle);have HGL:=jq (fun g=>ZgX (g:=g) hWt hDt hwlo hqle);have HGE:=jq (fun g=>ZgY (g:=g) hWt hDt hdlo hb11 hb29 hqlt);have HQD:=jq hq;have HPL:=jq hpl;have HALS:=jq hals;have HSL:=jq hsl;have HGS0:=jq hgs0;have HPRE:=jq hpre;have HS0:=jq hs0;clear hWt hDt hwlo hdlo hqle hqlt hq hS2 hS3 hgs0 hpl hals hsl hpre hs0 hak ha2 ha3 hb1 hb2;have hp0i:(i:Int)+(k:Int)=(p0:Int):=by omega
   have hp1i:(p0:Int)-1=(p1:Int):=by omega
   have hp2i:(p0:Int)-2=(p2:Int):=by omega
   have hk1i:(k:Int)-1=(q1:Int):=by omega
   have hk2i:(k:Int)-2=(k2:Int):=by omega
   have hp0l:p0<La:=by omega
   have hp1l:p1<La:=by omega
   have hp2l:p2<La:=by omega
   have hq1l:q1<k:=by omega
   have hk2l:k2<k:=by omega
   have HP0:=jq hp0;have HK2:=jq hk2e;clear hp0 hp1 hp2 hq1 hk2e;have c0:=HC0.out;have c1:=HC1.out;have c2:=HC2.out;have e1:=HE1.out;have e2:=HE2.out;obtain⟨t1,ht1⟩:∃t1,t1=ak*1000000000:=⟨_,rfl⟩
   have ht1i:(ak:Int)*1000000000=(t1:Int):=by omega
   have htopi:(t1:Int)+(a2:Int)=(top:Int):=by omega
   have ht1l:t1<=999999999000000000:=by omega
   have htopl:top<=999999999999999999:=by omega
   clear ht1 htop;go_upto_region 13 with (fail)
   have iw0:IntKind.i64.wrap (p0:Int)=(p0:Int):=IntWalk.i64_in _ (by omega);have iw1:IntKind.i64.wrap (p1:Int)=(p1:Int):=IntWalk.i64_in _ (by omega);have iw2:IntKind.u64.wrap (t1:Int)=(t1:Int):=IntWalk.u64_in _ (by omega);have iw3:IntKind.u64.wrap (top:Int)=(top:Int):=IntWalk.u64_in _ (by omega)
   go_quiet (fail)
   clear iw0 iw1 iw2 iw3 c0 c1 c2 e1 e2 HC0 HC1 HE1;have HDS1:=jq (HDS.out.drewN nq);clear HDS HC2 HE2;generalize wr.drewN nq=W1 at*;have e1:=HDS1.out.b.cellU HBQ.out;obtain⟨q0,hq0⟩:∃q0,q0=top/b1:=⟨_,rfl⟩
   have hq0i:(top:Int)/(b1:Int)=(q0:Int):=by rw[hq0];simp
   have hq0l:q0<=top:=by rw[hq0];exact Nat.div_le_self _ _
   have HQ0:=jq (show q<=q0 by rw[hq0];exact(Nat.le_div_iff_mul_le (by omega)).2 HGF.out);have HQ0b:=jq (show q0*b1<=top by rw[hq0];exact Nat.div_mul_le_self _ _);obtain⟨g0,hg0⟩:∃g0,g0=min q0 999999999:=⟨_,rfl⟩
   have hg0i:min (q0:Int) 999999999=(g0:Int):=by omega
   have hb1n:((b1:Int)==0)=false:=by simp;omega
   have HG0:=jq hg0;clear hq0 hg0;go_wp2_with fail
   clear e1 hb1n
   go_loopw [15] (fun g wr=>∃gg:Nat,g=.int .u64 gg/\gg<=999999999/\Hid (q<=gg)/\Hid (gg*b1<=top)/\Hid (DSt w ga gb gq La c4 k cb Lq al bs ql wr)) (fun g _=>(intOf g).toNat)
   case atStart=>exact⟨g0,rfl,by have:=HG0.out;omega,by show _<=_;have:=HG0.out;have:=HQ0.out;omega,by show _<=_;exact Nat.le_trans (Nat.mul_le_mul_right _ (by have:=HG0.out;omega)) HQ0b.out,HDS1⟩
   case round=>
    clear HQ0 HQ0b HG0 hq0i hq0l hg0i;clear HDS1;obtain⟨gg,rfl,hgg,HGQ,HGB,HDS2⟩:=hrel
    have e1:=HDS2.out.b.cellU HBQ.out;have c2:=HDS2.out.a.cellU HA3.out;have e2:=HDS2.out.b.cellU HB2.out;obtain⟨m1',hm1'⟩:∃x,x=gg*b1:=⟨_,rfl⟩
    obtain⟨lf,hlf⟩:∃x,x=top-m1':=⟨_,rfl⟩
    obtain⟨m2',hm2'⟩:∃x,x=gg*b2:=⟨_,rfl⟩
    have hm1i:(gg:Int)*(b1:Int)=(m1':Int):=by rw[hm1'];simp
    have hm2i:(gg:Int)*(b2:Int)=(m2':Int):=by rw[hm2'];simp
    have hm1l:m1'<=top:=by rw[hm1'];exact HGB.out
    have hm2l:m2'<=999999998000000001:=by rw[hm2'];exact Zcf (by omega) hb29
    have hlfi:(top:Int)-(m1':Int)=(lf:Int):=by omega
    have hlfl:lf<=top:=by omega
    have HM1:=jq hm1';have HM2:=jq hm2';have HLF:=jq hlf;clear hm1' hm2' hlf;obtain⟨brk,hbrk⟩:∃b:Bool,b=(decide (1000000000<=lf)||decide (m2'<=lf*1000000000+a3)):=⟨_,rfl⟩
    have HBRK:=jq hbrk;clear hbrk;go_upto_region 16 with (fail)
    go_cut [131] (fun s wc=>s=.bool brk/\Hid (DSt w ga gb gq La c4 k cb Lq al bs ql wc))
    case first=>
     by_cases hbig:1000000000<=lf
     ·have hbd:decide (1000000000<=(lf:Int))=true:=by simp;omega
      have hbd2:decide (1000000000<=lf)=true:=by simpa using hbig
      go_quiet (fail)
      go_wp2
      go_meet
      exact⟨by rw[HBRK.out,hbd2];rfl,HDS2.out.drewN _⟩
     ·have hbd:decide (1000000000<=(lf:Int))=false:=by simp;omega
      have hbd2:decide (1000000000<=lf)=false:=by simpa using hbig
      obtain⟨l1,hl1⟩:∃x,x=lf*1000000000:=⟨_,rfl⟩
      obtain⟨l2,hl2⟩:∃x,x=l1+a3:=⟨_,rfl⟩
      have hl1i:(lf:Int)*1000000000=(l1:Int):=by omega
      have hl2i:(l1:Int)+(a3:Int)=(l2:Int):=by omega
      have HLE:=jq (show decide (m2'<=lf*1000000000+a3)=decide (m2'<=l2) by rw[hl2,hl1]);have hll1:l1<=999999999000000000:=by omega
      have hll2:l2<=999999999999999999:=by omega
      clear hl1 hl2;have iw0:IntKind.i64.wrap (p0:Int)=(p0:Int):=IntWalk.i64_in _ (by omega);have iw1:IntKind.i64.wrap (p2:Int)=(p2:Int):=IntWalk.i64_in _ (by omega);have iw5:IntKind.i64.wrap (k2:Int)=(k2:Int):=IntWalk.i64_in _ (by omega);have iw2:IntKind.u64.wrap (l1:Int)=(l1:Int):=IntWalk.u64_in _ (by omega);have iw3:IntKind.u64.wrap (l2:Int)=(l2:Int):=IntWalk.u64_in _ (by omega);have iw4:IntKind.u64.wrap (m2':Int)=(m2':Int):=IntWalk.u64_in _ (by omega)
      go_quiet (fail)
      go_wp2
      go_meet
      exact⟨by rw[HBRK.out,hbd2,HLE.out];rfl,HDS2.out.drewN _⟩
    case rest=>
    clear e1 c2 e2 HDS2;obtain⟨rfl,HDS2⟩:=hcut
    obtain⟨W2,rfl⟩:∃W,W=wc:=⟨_,rfl⟩
    cases brk with
    |false=>
     have hno:lf<1000000000/\lf*1000000000+a3<m2':=by have:=HBRK.out;simp at this;omega
     have HLT:=jq (HGL.out gg HGB.out (by have h1:=HM1.out;have h2:=HM2.out;have h3:=HLF.out;rw[<-h1,<-h2,<-h3];exact hno.2));have hg1:1<=gg:=by have:=HLT.out;omega
     clear hno HBRK;go_wp2_with fail
     go_roundw
     case rel=>
      refine⟨gg-1,by go_num,by omega,?_,?_,HDS2⟩
      ·show _<=_
       have:=HLT.out;omega
      ·show _<=_
       exact Nat.le_trans (Nat.mul_le_mul_right _ (by omega)) HGB.out
     case measure=>simp[intOf];omega
    |true=>
     have HG1:=jq (HGE.out gg HGB.out (by omega) (by
      have h0:=HBRK.out;have h1:=HM1.out;have h2:=HM2.out;have h3:=HLF.out;rw[<-h1,<-h2,<-h3];simp at h0;exact h0))
     clear HBRK HM1 HM2 HLF hm1i hm2i hm1l hm2l hlfi hlfl HGL HGE HGF;have HALS2:=HALS;have HDS3:=jq (show DSt w ga gb gq La c4 k cb Lq (pre++s0) bs ql W2 by have:=HDS2.out;rwa [HALS.out] at this);have HZ0:=jq (DInv.zero (ys:=bs) (g:=gg) HGS0.out);clear HDS2;go_wp2_with fail
     go_loopw [17,136] (fun bo jj wr=>∃(j bor:Nat) (s:List Nat),j<=k/\jj=.int .i64 j/\bo=.int .u64 bor/\bor<=1000000000/\Hid (DInv s0 bs gg j bor s)/\Hid (DSt w ga gb gq La c4 k cb Lq (pre++s) bs ql wr)) (fun _ jj _=>k-(intOf jj).toNat)
     case atStart=>exact⟨0,0,s0,Nat.zero_le _,rfl,rfl,by omega,HZ0,HDS3⟩
     case round=>
      clear HZ0 HDS3;obtain⟨j,bor,s,hjk,rfl,rfl,hbor,HI,HDS⟩:=hrel
      by_cases hlt:j<k
      ·obtain⟨x,hx⟩:∃x,s0[j]?=some x:=⟨_,List.getElem?_eq_getElem (by rw[HSL.out];omega)⟩
       obtain⟨y,hy⟩:∃y,bs[j]?=some y:=⟨_,List.getElem?_eq_getElem (by rw[<-HKB.out];exact hlt)⟩
       have hx9:=HGS0.out.at_ hx;have hy9:=HMB.out.gs.at_ hy;have hsx:s[j]?=some x:=by rw[HI.out.at_ j (Nat.le_refl _)];exact hx
       have hax:(pre++s)[i+j]?=some x:=by rw[ZaM HPL.out];exact hsx
       obtain⟨pj,hpj⟩:∃pj,pj=i+j:=⟨_,rfl⟩
       rw[<-hpj] at hax;have hpji:(i:Int)+(j:Int)=(pj:Int):=by omega
       have hpjl:pj<La:=by omega
       have d0:=HDS.out.a.cellU hax;have e0:=HDS.out.b.cellU hy;have f0:=HDS.out.a.frozen pj;have HAX:=jq hax;have HSET:=jq (fun d=>show(pre++s).set pj d=pre++s.set j d by rw[hpj];exact ZeB HPL.out);obtain⟨pp,hpp⟩:∃pp,pp=gg*y:=⟨_,rfl⟩
       have hppi:(gg:Int)*(y:Int)=(pp:Int):=by rw[hpp];simp
       have hppl:pp<=999999998000000001:=by rw[hpp];exact Zcf (by omega) hy9
       have HST:=jq (fun d b' (h1:d<1000000000) (h2:b'<=1000000000) (h3:d+(pp+bor)=x+1000000000*b')=>HI.out.step (d:=d) (b':=b') hx hy h1 h2 (by rw[<-hpp];exact h3));clear hax hpj hpp hsx hx hy
       by_cases hxl:x<(pp+bor)%1000000000
       ·have hxd:decide ((x:Int)<((pp:Int)+(bor:Int))%1000000000)=true:=by simp;omega
        have HN:=jq (HST.out (x+1000000000-(pp+bor)%1000000000) ((pp+bor)/1000000000+1) (by omega) (by omega) (by omega));go_wp2_with fail
        go_roundw
        case rel=>
         have h1:=HDS.out.setA (y:=x+1000000000) HAX.out;have h3:=h1.setA (i:=pj) (x:=x+1000000000) (y:=x+1000000000-(pp+bor)%1000000000) (by rw[List.getElem?_set_self (List.getElem?_eq_some_iff.1 HAX.out).1]);rw[List.set_set,HSET.out,show((x+1000000000:Nat):Int)=(x:Int)+1000000000 by omega,show((x+1000000000-(pp+bor)%1000000000:Nat):Int)=(x:Int)+1000000000-((pp:Int)+bor)%1000000000 by omega] at h3;refine⟨j+1,(pp+bor)/1000000000+1,_,by omega,by go_num,by go_num,by omega,HN,?_⟩
         show DSt _ _ _ _ _ _ _ _ _ _ _ _ _
         with_reducible exact h3
        case measure=>simp[intOf];omega
       ·have hxd:decide ((x:Int)<((pp:Int)+(bor:Int))%1000000000)=false:=by simp;omega
        have HN:=jq (HST.out (x-(pp+bor)%1000000000) ((pp+bor)/1000000000) (by omega) (by omega) (by omega));go_wp2_with fail
        go_roundw
        case rel=>
         have h3:=HDS.out.setA (y:=x-(pp+bor)%1000000000) HAX.out;rw[HSET.out,show((x-(pp+bor)%1000000000:Nat):Int)=(x:Int)-((pp:Int)+bor)%1000000000 by omega] at h3;refine⟨j+1,(pp+bor)/1000000000,_,by omega,by go_num,by go_num,by omega,HN,?_⟩
         show DSt _ _ _ _ _ _ _ _ _ _ _ _ _
         with_reducible exact h3
        case measure=>simp[intOf];omega
      ·obtain rfl:k=j:=by omega
       have hsk:s[k]?=some ak:=by rw[HI.out.at_ k (Nat.le_refl _)];exact HSK.out
       have hap:(pre++s)[p0]?=some ak:=by rw[HP0.out,ZaM HPL.out];exact hsk
       have d0:=HDS.out.a.cellU hap;have f0:=HDS.out.a.frozen p0;obtain⟨xq,hxq⟩:∃xq,ql[i]?=some xq:=⟨_,List.getElem?_eq_getElem (by rw[HQL.out];omega)⟩
       have e0:=HDS.out.q.cellU hxq;have g0:=HDS.out.q.frozen i;have haq:=HDS.out.aq;have HAP:=jq hap;have HXQ:=jq hxq;have HSET:=jq (fun(s':List Nat) d=>show(pre++s').set p0 d=pre++s'.set k d by rw[HP0.out];exact ZeB HPL.out);have HLEN:=jq (show pre.length+s.length=La by rw[HPL.out,HI.out.len,HSL.out];omega);clear hap hxq hsk
       by_cases hbk:bor<=ak
       ·have hbd:decide (bor<=ak)=true:=by simpa using hbk
        have HF:=jq (ZnW HI.out HKB.out.symm HMB.out.val HSK.out HZ.out HQD.out hD0 HGQ.out hbk);go_wp2_with fail
        go_roundw
        case rel=>
         have h1:=HDS.out.setA (y:=ak-bor) HAP.out;have h2:=h1.setQ (y:=gg) HXQ.out;rw[HSET.out,show((ak-bor:Nat):Int)=(ak:Int)-(bor:Int) by omega] at h2;have h3:=HQ.out.step (s':=s.set k (ak-bor)) (by rw[HQL.out];omega) (by rw[HAL.out];omega) (HI.out.gs.set _ (by omega)) (show gg<1000000000 by omega) (by rw[HS0.out,<-HQD.out];exact HF.out.1) (by rw[HS0.out];exact HF.out.2);rw[HPRE.out] at h3;refine⟨i,(i:Int)-1,_,_,rfl,by show _=_;rfl,by omega,?_,?_,h3,?_⟩
         ·show _=_
          rw[List.length_append,List.length_set];exact HLEN.out
         ·show _=_
          rw[List.length_set];exact HQL.out
         ·show DSt _ _ _ _ _ _ _ _ _ _ _ _ _
          with_reducible exact h2
        case measure=>simp[intOf]
       ·have hbd:decide (bor<=ak)=false:=by simpa using hbk
        have hgq:=Zo5 HI.out HKB.out.symm HMB.out.val HSK.out HZ.out HQD.out hD0 HG1.out (by omega);have hgi:(gg:Int)-1=(q:Int):=by omega
        have hgg1:1<=gg:=by omega
        have HGGQ:=jq hgq;have HZP:=jq (PInv.zero s bs);clear hgq;go_wp2_with fail
        clear d0 e0
        go_loopw [20,200] (fun cy jj wr=>∃(j carry:Nat) (s2:List Nat),j<=k/\jj=.int .i64 j/\cy=.int .u64 carry/\carry<=1/\Hid (PInv s bs j carry s2)/\Hid (DSt w ga gb gq La c4 k cb Lq (pre++s2) bs ql wr)) (fun _ jj _=>k-(intOf jj).toNat)
        case atStart=>exact⟨0,0,s,Nat.zero_le _,rfl,rfl,by omega,HZP,HDS⟩
        case round=>
         clear HZP HDS f0 g0 hlt;obtain⟨j,carry,s2,hjk,rfl,rfl,hcy,HP,HDS⟩:=hrel
         by_cases hlt:j<k
         ·obtain⟨x,hx⟩:∃x,s[j]?=some x:=⟨_,List.getElem?_eq_getElem (by rw[HI.out.len,HSL.out];omega)⟩
          obtain⟨y,hy⟩:∃y,bs[j]?=some y:=⟨_,List.getElem?_eq_getElem (by rw[<-HKB.out];exact hlt)⟩
          have hx9:=HI.out.gs.at_ hx;have hy9:=HMB.out.gs.at_ hy;have hax:(pre++s2)[i+j]?=some x:=by rw[ZaM HPL.out];exact HP.out.at_ hx
          obtain⟨pj,hpj⟩:∃pj,pj=i+j:=⟨_,rfl⟩
          rw[<-hpj] at hax;have hpji:(i:Int)+(j:Int)=(pj:Int):=by omega
          have hpjl:pj<La:=by omega
          have d0:=HDS.out.a.cellU hax;have e0:=HDS.out.b.cellU hy;have f0:=HDS.out.a.frozen pj;have hne:gb≠ga:=fun e=>HDS.out.ab e.symm
          have HAX:=jq hax;have HSETj:=jq (fun d=>show(pre++s2).set pj d=pre++s2.set j d by rw[hpj];exact ZeB HPL.out);obtain⟨yc,hyc⟩:∃yc,yc=y+carry:=⟨_,rfl⟩
          obtain⟨xs',hxs'⟩:∃t,t=x+yc:=⟨_,rfl⟩
          have hyci:(y:Int)+(carry:Int)=(yc:Int):=by omega
          have hxsi:(x:Int)+(yc:Int)=(xs':Int):=by omega
          have hycl:yc<=1000000000:=by omega
          have hxsl:xs'<=1999999999:=by omega
          have HST:=jq (HP.out.step hx HI.out.gs HMB.out.gs);rw[show VC bs j=y by unfold VC;simp[List.getD,hy],show x+carry+y=xs' by omega] at HST;clear hax hpj hyc hxs' hx hy;go_upto_region 37 with (fail)
          have iw0:IntKind.i64.wrap (pj:Int)=(pj:Int):=IntWalk.i64_in _ (by omega);have iw1:IntKind.u64.wrap (yc:Int)=(yc:Int):=IntWalk.u64_in _ (by omega);have iw2:IntKind.u64.wrap (xs':Int)=(xs':Int):=IntWalk.u64_in _ (by omega)
          go_region
          all_goals
           clear iw0 iw1 iw2;go_wp2_with fail
           go_roundw
           case rel=>
            have h1:=HDS.out.setA (y:=xs') HAX.out;have h3:=h1.setA (i:=pj) (x:=xs') (y:=xs'%1000000000) (by rw[List.getElem?_set_self (List.getElem?_eq_some_iff.1 HAX.out).1]);rw[List.set_set,HSETj.out,show((xs'%1000000000:Nat):Int)=(xs':Int)%1000000000 by omega] at h3;refine⟨j+1,xs'/1000000000,_,by omega,by go_num,by go_num,by omega,HST,?_⟩
            show DSt _ _ _ _ _ _ _ _ _ _ _ _ _
            with_reducible exact h3.drew
           case measure=>simp[intOf];omega
         ·obtain rfl:k=j:=by omega
          have HB:=jq (ZnX HI.out HKB.out.symm HMB.out.gs HMB.out.val HSK.out HZ.out HQD.out hD0 HG1.out (by omega) HP.out);have hap:(pre++s2)[p0]?=some ak:=by rw[HP0.out,ZaM HPL.out];exact HB.out.2.2.1
          have d0:=HDS.out.a.cellU hap;have f0:=HDS.out.a.frozen p0;have e0:=HDS.out.q.cellU HXQ.out;have g0:=HDS.out.q.frozen i;have HAP2:=jq hap;have hac:(ak:Int)+(carry:Int)=(bor:Int):=by have:=HB.out.2.1;omega
          clear hap;go_wp2_with fail
          go_roundw
          case rel=>
           have h1:=HDS.out.setA (y:=0) HAP2.out;have h2:=h1.setQ (y:=q) HXQ.out;rw[HSET.out] at h2;have h3:=HQ.out.step (s':=s2.set k 0) (by rw[HQL.out];omega) (by rw[HAL.out];omega) (HB.out.2.2.2.2.set _ (by omega)) hq9 (by rw[HS0.out,<-HQD.out]) (by rw[HS0.out];exact HB.out.2.2.2.1);rw[HPRE.out] at h3;refine⟨i,(i:Int)-1,_,_,rfl,by show _=_;rfl,by omega,?_,?_,h3,?_⟩
           ·show _=_
            rw[List.length_append,List.length_set,HP.out.len];exact HLEN.out
           ·show _=_
            rw[List.length_set];exact HQL.out
           ·show DSt _ _ _ _ _ _ _ _ _ _ _ _ _
            first|with_reducible exact h2|(simp only[Int.natCast_zero] at h2;with_reducible exact h2)
          case measure=>simp[intOf]
end
end Go.Proofs.YtkddgeclncafoaaGreatDoor
