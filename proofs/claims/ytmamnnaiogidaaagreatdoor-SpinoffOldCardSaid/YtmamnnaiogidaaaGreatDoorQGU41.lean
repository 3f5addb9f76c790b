/- Sq1, Apm, En. -/
import Derived.Test.YtmamnnaiogidaaaGreatDoorQGU25
import Derived.Test.YtmamnnaiogidaaaGreatDoorQGU30
set_option maxRecDepth 100000
set_option maxHeartbeats 4000000
namespace Go.Proofs.YtmamnnaiogidaaaGreatDoor
open Go.Lib renaming hid→jq
open Go.RowKit Go.Shelf
section
def Js(f:Fct):Mp:=⟨f.key,f.day,f.inst,f.other,f.ratio,f.share,f.price,true⟩
theorem Zfv{p q:Bool}{g:Fr}(h:XJ p q g=0):g.ok/\0<=g.rat/\(p=true->g.rat≠0)/\(q=true->g.rat<=1):=by
 unfold XJ at h
 split at h
 ·cases h
 rename_i h1
 split at h
 ·cases h
 split at h
 ·cases h
 rename_i h3
 exact⟨Classical.not_not.1 h1,Rat.not_lt.1 fun a=>h3 (.inl a),fun a b=>h3 (.inr (.inl ⟨a,b⟩)),fun a=>Rat.not_lt.1 fun b=>h3 (.inr (.inr ⟨a,b⟩))⟩
theorem ZlH(f:Fct)(r:KRow):∀(n i:Nat),Jj f r i n=0->∀j,i<=j->j<i+n->r.has j=true->VV f r j=0:=by
 intro n
 induction n with
 |zero=>intro i _ j h1 h2;omega
 |succ n ih=>
  intro i h j h1 h2 h3;unfold Jj at h
  by_cases e:i=j
  ·subst e;rw[if_pos h3] at h
   split at h
   ·rename_i h0;exact absurd h h0
   ·rename_i h0;exact Classical.not_not.1 h0
  ·split at h
   ·split at h
    ·rename_i h0;exact absurd h h0
    ·exact ih (i+1) h j (by omega) (by omega) h3
   ·split at h
    ·cases h
    ·exact ih (i+1) h j (by omega) (by omega) h3
theorem Zoa{f:Fct}(h:Za4 f=0):(Js f).Ok:=by
 unfold Za4 at h
 by_cases h1:YY f=0
 ·rw[if_neg (by simpa using h1)] at h
  have hk:f.kind=9:=by
   by_cases h2:f.kind=9
   ·exact h2
   ·rw[if_pos h2] at h;cases h
  unfold YY at h1
  split at h1
  ·cases h1
  rename_i k1
  split at h1
  ·cases h1
  split at h1
  ·split at h1
   ·rename_i e
    have:=congrArg Fct.kind e
    simp only at this
    omega
   ·cases h1
  split at h1
  ·cases h1
  rename_i k2
  rw[hk] at h1;have h2:Jj f Zow 0 13=0:=h1;have key:=fun j hj=>ZlH f Zow 13 0 h2 j (Nat.zero_le _) hj
  have f0:(if Qk f.inst=false then(23:Int) else 0)=0:=key 0 (by omega) (by rfl);have f1:(if Qk f.other=false then(23:Int) else if f.other=f.inst then 18 else 0)=0:=key 1 (by omega) (by rfl);have f7:XJ false false f.price=0:=key 7 (by omega) (by rfl);have f8:XJ true false f.ratio=0:=key 8 (by omega) (by rfl);have f9:XJ false true f.share=0:=key 9 (by omega) (by rfl);have n7:=Zfv f7;have n8:=Zfv f8;have n9:=Zfv f9
  have b0:Qk f.inst=true:=by
   cases e:Qk f.inst with
   |true=>rfl
   |false=>rw[if_pos e] at f0;cases f0
  have b1:Qk f.other=true:=by
   cases e:Qk f.other with
   |true=>rfl
   |false=>rw[if_pos e] at f1;cases f1
  have b2:f.other≠f.inst:=fun e=>by
   rw[if_neg (by rw[b1];decide),if_pos e] at f1
   cases f1
  have b3:Qk f.key=true:=by simpa using k1
  refine⟨b3,b0,b1,?_,n8.1,n9.1,n7.1,?_,n9.2.1,n9.2.2.2 rfl,n7.2.1,fun _=>b2,fun e=>by cases e⟩
  ·show(decide (-25567<=f.day)&&decide (f.day<=84005))=true
   rw[Bool.and_eq_true,decide_eq_true_eq,decide_eq_true_eq];omega
  ·exact Rat.lt_of_le_of_ne n8.2.1 (Ne.symm (n8.2.2.1 rfl))
 ·rw[if_pos h1] at h;exact absurd h h1
theorem ZgF{ls:List Lot}{f:Fct}(h:Xr ls f=true):Xm ls=0/\mpC (Js f)=0:=by
 unfold Xr at h;rw[Bool.and_eq_true,decide_eq_true_eq,decide_eq_true_eq] at h;exact⟨h.1,(VU _).2 (Zoa h.2)⟩
def Xk(ls:List Lot)(f:Fct):Res×Int:=if Xr ls f=false then(Res.none,1) else QQ ls (Js f)
theorem ZlI{ls:List Lot}{f:Fct}(h:(Xk ls f).2≠0):(Xk ls f).1=Res.none:=by
 unfold Xk at h ⊢
 split
 ·rfl
 ·rename_i hv
  rw[if_neg hv] at h;exact Zit h
theorem Zci{ls:List Lot}{f:Fct}(h:(Xk ls f).2=0):Xr ls f=true/\Xk ls f=QQ ls (Js f)/\(QQ ls (Js f)).2=0:=by
 unfold Xk at h ⊢
 cases hv:Xr ls f with
 |false=>rw[hv,if_pos rfl] at h;cases h
 |true=>
  rw[hv,if_neg (by decide)] at h;exact⟨rfl,by rw[if_neg (by decide)],h⟩
theorem Zjz{ls:List Lot}{m:Mp}(h:(QQ ls m).2=0):
 VB ls m=(Qa (Zbh (QQ ls m).1.gains),0)/\∃t,JU ls m=(Qa (XD (Qr ls (QQ ls m).1.lots)),Qa (Vc (QQ ls m).1.gains),t,0):=by
 obtain⟨c1,c2,_⟩:=ZdS h
 obtain⟨p1,p2,p3,p4,p5,p6⟩:=ZcB h
 refine⟨by rw[c1,c2],Qa (XT ls m.inst (fun z=>val z.c)-(Qe (Qb ls m.inst) m).m.sum),?_⟩;unfold JU;rw[if_pos ⟨p1,p2⟩,p5,p6]
theorem ZlJ{ls:List Lot}{f:Fct}(h:Xr ls f=true):Zau ls f=((Qe (Qb ls f.inst) (Js f)).m,0):=by
 have e:(Qe (Qb ls f.inst) (Js f)).m=YP (Jc ls f) ((Qb ls f.inst).map (fun z=>val z.c)):=rfl;rw[e];unfold Zau YP;rw[if_neg (by rw[h];decide)]
 by_cases hc:QX (Qa (Jc ls f)) ((Qb ls f.inst).map (·.c))=0
 ·rw[if_neg (by simpa using hc)]
  have hs:¬((Qb ls f.inst).map (fun z=>val z.c)).sum=0:=fun e=>by
   unfold QX at hc
   split at hc
   ·cases hc
   split at hc
   ·cases hc
   split at hc
   ·cases hc
   split at hc
   ·cases hc
   ·rename_i e2
    unfold Qw at e2;rw[ZlA] at e2;exact e2 e
  rw[if_neg hs]
 ·rw[if_pos hc,if_pos (Zju h hc),List.map_map];rfl
def VE(ls:List Lot)(i:List UInt8)(k:Nat):Nat:=(Qb (ls.take k) i).length
def ZcI(i:List UInt8)(c:Int)(x:Lot):Lot:=if x.inst=i then {x with c:=Qa (val x.c-c)} else x
theorem ZeP{ls:List Lot}{i:List UInt8}{k:Nat}{x:Lot}(h:ls[k]?=some x):VE ls i (k+1)=VE ls i k+if x.inst=i then 1 else 0:=by
 obtain⟨hk,rfl⟩:=List.getElem?_eq_some_iff.1 h
 unfold VE Qb;rw[List.take_succ_eq_append_getElem hk,List.filter_append,List.length_append]
 by_cases e:ls[k].inst=i<;>simp[e]
theorem Znb(ls:List Lot)(i:List UInt8)(k:Nat):VE ls i k<=(Qb ls i).length:=by
 unfold VE Qb;exact((List.take_sublist k ls).filter _).length_le
theorem Znc{ls:List Lot}{i:List UInt8}{k:Nat}{x:Lot}(h:ls[k]?=some x)(hx:x.inst=i):VE ls i k<(Qb ls i).length:=by
 have h1:=ZeP (i:=i) h;have h2:=Znb ls i (k+1);rw[if_pos hx] at h1;omega
theorem ZlK{m:Mp}(hk:m.keep=true)(ms:List Int)(b:Nat)(l:List Lot){k:Nat}{x:Lot}(h:l[k]?=some x):ZcI m.inst (ms.getD (b+VE l m.inst k) 0) x∈Qn m ms b l:=by
 induction l generalizing b k with
 |nil=>simp at h
 |cons a l ih=>
  unfold Qn
  cases k with
  |zero=>
   obtain rfl:a=x:=by simpa using h
   unfold ZcI
   by_cases ha:a.inst=m.inst
   ·rw[if_pos ha,if_pos ha,if_pos hk];refine List.mem_cons.2 (.inl ?_);rw[show VE (a::l) m.inst 0=0 from rfl,Nat.add_zero]
   ·rw[if_neg ha,if_neg ha];exact List.mem_cons.2 (.inl rfl)
  |succ k=>
   have h':l[k]?=some x:=by simpa using h
   by_cases ha:a.inst=m.inst
   ·have e:VE (a::l) m.inst (k+1)=VE l m.inst k+1:=by
     unfold VE Qb;rw[List.take_succ_cons,List.filter_cons,if_pos (by simp[ha]),List.length_cons]
    rw[if_pos ha,if_pos hk,e,show b+(VE l m.inst k+1)=b+1+VE l m.inst k by omega];exact List.mem_cons.2 (.inr (ih (b+1) h'))
   ·have e:VE (a::l) m.inst (k+1)=VE l m.inst k:=by
     unfold VE Qb;rw[List.take_succ_cons,List.filter_cons,if_neg (by simp[ha])]
    rw[if_neg ha,e];exact List.mem_cons.2 (.inr (ih b h'))
theorem Znd(i:List UInt8)(c:Int)(x:Lot):(ZcI i c x).id=x.id:=by
 unfold ZcI
 split<;>rfl
theorem ZlL{ls:List Lot}{m:Mp}(h0:(QQ ls m).2=0)(hk:m.keep=true){k:Nat}{x:Lot}(h:ls[k]?=some x):
 ∃j:Nat,Zax (QQ ls m).1.lots x.id=(j:Int)/\(QQ ls m).1.lots[j]?=some (ZcI m.inst ((Qe (Qb ls m.inst) m).m.getD (VE ls m.inst k) 0) x):=by
 rcases XE ls m with ⟨e,he,h'⟩|⟨hl,hm,ho',h'⟩|⟨A,B,hM,h'⟩
 ·rw[h'] at h0;exact absurd h0 he
 ·rw[h'];have hx:=List.mem_of_getElem? h
  have hne:¬x.inst=m.inst:=fun e=>by
   have:x∈Qb ls m.inst:=List.mem_filter.2 ⟨hx,by simp[e]⟩
   rw[ho'] at this
   cases this
  have hst:ZcI m.inst ((Qe (Qb ls m.inst) m).m.getD (VE ls m.inst k) 0) x=x:=if_neg hne;rw[hst];exact ZgE hl.ids hx
 ·rw[h'];have hz:=ZlK hk (Qe (Qb ls m.inst) m).m 0 ls h;rw[hM.cut,Nat.zero_add] at hz;have hz2:∀z,z∈A++B->z∈A++mdO ls m++B:=fun z hz=>by rcases List.mem_append.1 hz with hz|hz<;>simp[hz]
  have:=ZgE (hM.ok' hM.len).ids (hz2 _ hz)
  rw[Znd] at this;exact this
theorem ZlM{ls:List Lot}{m:Mp}(h:(QQ ls m).2=0):(Qe (Qb ls m.inst) m).m.sum-XD (Qr ls (QQ ls m).1.lots)-Vc (QQ ls m).1.gains=0:=by
 obtain⟨p1,p2,p3,p4,p5,p6⟩:=ZcB h
 omega
def XP(ls:List Lot)(f:Fct):Rat:=((XT ls f.inst (fun z=>val z.q):Int):Rat)*f.ratio.rat
theorem ZjA{ls:List Lot}{f:Fct}(h:(QQ ls (Js f)).2=0):
 JT (Qr ls (QQ ls (Js f)).1.lots)=QA (XP ls f)/\(XP ls f-((QA (XP ls f):Int):Rat)=0->(QQ ls (Js f)).1.gains.length=0)/\
 ∀z∈Qr ls (QQ ls (Js f)).1.lots,z.inst=f.other/\∃y∈Qb ls f.inst,y.acq=z.acq/\y.opn=z.opn:=by
 obtain⟨c1,c2,c3,_⟩:=ZdS h
 refine⟨?_,c3,?_⟩
 ·rcases XE ls (Js f) with ⟨e,he,h'⟩|⟨hl,hm,ho',h'⟩|⟨A,B,hM,h'⟩
  ·rw[h'] at h;exact absurd h he
  ·rw[h']
   show JT (Qr ls ls)=_
   have e:XP ls f=0:=by
    unfold XP XT;rw[show Qb ls f.inst=[] from ho'];exact Rat.zero_mul _
   rw[ZdE,e];exact(Zim 0).symm
  ·exact(ZgD h hM.old).2.2.1
 ·intro z hz
  rcases XE ls (Js f) with ⟨e,he,h'⟩|⟨hl,hm,ho',h'⟩|⟨A,B,hM,h'⟩
  ·rw[h'] at h;exact absurd h he
  ·rw[h'] at hz;have hz:z∈Qr ls ls:=hz;rw[ZdE] at hz
   cases hz
  ·rw[h'] at hz;have hz:z∈Qr ls (A++mdO ls (Js f)++B):=hz;rw[hM.new] at hz;obtain⟨i,y,hy,hn,rfl⟩:=ZaJ hz
   exact⟨rfl,y,List.mem_of_getElem? hy,rfl,rfl⟩
theorem Zne:Qg 0=⟨[],[]⟩:=by
 have h:=Jq 0;rw[show((0:Int):Rat)=0 from rfl] at h;rw[h];rfl
theorem ZlN{q:Rat}(h:q≠0):((Qg q).n==[])=false:=by
 rw[Bool.eq_false_iff];intro e;have h1:Qa q.num=[]:=eq_of_beq e;have h2:=Vt.1 h1;exact h (Rat.num_eq_zero.1 h2)
end
section
attribute [local go_sem] Oper.semAt_some
attribute [local go_sem ↓] Go.wp_at_zero Go.wp_at_succ Yh
theorem ZhS(f:Fct)(v:FaV)(w:World):Calls Tryz.prog 28 #[.agg (Qo f v)] w fun e w'=>
 ∃P,e=.returned (.func (.func 61) #[] #[.pointer (some ⟨P,0,none⟩)])/\w.1.size<=P/\BlkB w' P (Qo f v) 30/\Below w.1.size w w':=by
 have HB:=jq (show BlkB (w.alloc (.cells (Qo f v) 30)) w.1.size (Qo f v) 30 from heap_alloc_new w _);have HA:=jq ((Below.refl w.1.size w).alloc (Nat.le_refl _) (.cells (Qo f v) 30));generalize Qo f v=fb at*;go_enter Tryz.func28,Tryz.ntmps28
 go_wp2_with fail
 first|go_ret|skip
 exact⟨w.1.size,rfl,Nat.le_refl _,HB.out,HA.out⟩
theorem ZgN(f:Fct)(v:FaV)(P:Nat)(w:World)(hp:Env w)(hB:BlkB w P (Qo f v) 30):
 Calls Tryz.prog 61 #[.pointer (some ⟨P,0,none⟩)] w fun e w'=>e=.returned (MpV (Js f))/\Below w.1.size w w':=by
 have H:=jq ((Kp.start hp).new w.1.size rfl #[.string ⟨#[]⟩,.int .i64 0,.string ⟨#[]⟩,.string ⟨#[]⟩,.string ⟨#[]⟩,.string ⟨#[]⟩,.string ⟨#[]⟩,.string ⟨#[]⟩,.string ⟨#[]⟩,.string ⟨#[]⟩,.bool false] 75);have hB1:=hB.here H.out.bl;have x0:=hB1.cell 0 (v:=.string ⟨f.key.toArray⟩) rfl;have x3:=hB1.cell 3 (v:=.int .i64 f.day) rfl;have x5:=hB1.cell 5 (v:=.string ⟨f.inst.toArray⟩) rfl;have x6:=hB1.cell 6 (v:=.string ⟨f.other.toArray⟩) rfl;have x12:=hB1.cell 12 (v:=.string ⟨f.price.n.toArray⟩) rfl;have x13:=hB1.cell 13 (v:=.string ⟨f.price.d.toArray⟩) rfl;have x14:=hB1.cell 14 (v:=.string ⟨f.ratio.n.toArray⟩) rfl;have x15:=hB1.cell 15 (v:=.string ⟨f.ratio.d.toArray⟩) rfl;have x16:=hB1.cell 16 (v:=.string ⟨f.share.n.toArray⟩) rfl;have x17:=hB1.cell 17 (v:=.string ⟨f.share.d.toArray⟩) rfl;obtain⟨n0,n1,n2,n3,n4,n5,n6,n7,n8,n9,n10⟩:=z11 H.out (i:=0) rfl
 have f0:=H.out.f 0 0 rfl;have f1:=H.out.f 0 1 rfl;have f2:=H.out.f 0 2 rfl;have f3:=H.out.f 0 3 rfl;have f4:=H.out.f 0 4 rfl;have f5:=H.out.f 0 5 rfl;have f6:=H.out.f 0 6 rfl;have f7:=H.out.f 0 7 rfl;have f8:=H.out.f 0 8 rfl;have f9:=H.out.f 0 9 rfl;have f10:=H.out.f 0 10 rfl;have HE:=jq (ZjK H.out (i:=0) rfl (.string ⟨f.key.toArray⟩) (.int .i64 f.day) (.string ⟨f.inst.toArray⟩) (.string ⟨f.other.toArray⟩) (.string ⟨f.ratio.n.toArray⟩) (.string ⟨f.ratio.d.toArray⟩) (.string ⟨f.share.n.toArray⟩) (.string ⟨f.share.d.toArray⟩) (.string ⟨f.price.n.toArray⟩) (.string ⟨f.price.d.toArray⟩) (.bool true));have HV:=jq (show MpV (Js f)=.agg #[.string ⟨f.key.toArray⟩,.int .i64 f.day,.string ⟨f.inst.toArray⟩,.string ⟨f.other.toArray⟩,.string ⟨f.ratio.n.toArray⟩,.string ⟨f.ratio.d.toArray⟩,.string ⟨f.share.n.toArray⟩,.string ⟨f.share.d.toArray⟩,.string ⟨f.price.n.toArray⟩,.string ⟨f.price.d.toArray⟩,.bool true] from rfl);generalize MpV (Js f)=mv at*;clear hB hB1 hp H;go_enter Tryz.func61,Tryz.ntmps61
 go_upto_region 1 with (fail)
 generalize w.alloc _=W0 at*;go_wp2_with fail
 obtain⟨r0,r1,r2,r3,r4,r5,r6,r7,r8,r9,r10⟩:=z11 HE.out (i:=0) rfl
 refine bodyPost_ret (v:=.agg #[.string ⟨f.key.toArray⟩,.int .i64 f.day,.string ⟨f.inst.toArray⟩,.string ⟨f.other.toArray⟩,.string ⟨f.ratio.n.toArray⟩,.string ⟨f.ratio.d.toArray⟩,.string ⟨f.share.n.toArray⟩,.string ⟨f.share.d.toArray⟩,.string ⟨f.price.n.toArray⟩,.string ⟨f.price.d.toArray⟩,.bool true]) (by simp[results,Tryz.results61,go_sem,r0,r1,r2,r3,r4,r5,r6,r7,r8,r9,r10]) rfl ?_;exact⟨by rw[HV.out],HE.out.bl⟩
end
section
attribute [local go_sem] Oper.semAt_some
attribute [local go_sem ↓] Go.wp_at_zero Go.wp_at_succ Yh
def Zbi(ls:List Lot)(f:Fct):List UInt8×Fr×Int:=
 if Xr ls f=false then([],⟨[],[]⟩,1) else(Qa (QA (XP ls f)),Qg (XP ls f-((QA (XP ls f):Int):Rat)),0)
def ZcZ(r:List UInt8×Fr×Int)(w:World)(e:Ending)(w':World):Prop:=e=.returned (.tuple #[S r.1,Qy r.2.1,.int .i64 r.2.2])/\Below w.1.size w w'
theorem ZfD(A:Option Addr)(n c:Nat)(ls:List Lot)(f:Fct)(v:FaV)(w:World)(hp:Env w)(hs:Xg w w.1.size A n ls)(hl:∀x∈ls,x.Sz 50000)(hq:∀x∈ls,x.q.length<=13)(hn:n<=1002)
 (hf:f.Sz 1000) (h1:f.ratio.Sz 13) (hm:FaM w w.1.size f v) (hpn:v.pn<=100000) (hon:v.on<=100000):
 Calls Tryz.prog 17 #[.slice A n c,.agg (Qo f v)] w (ZcZ (Zbi ls f) w):=by
 have HPO:=jq (show ZcZ (Zbi ls f) w=fun e w'=>e=.returned (.tuple #[S (Zbi ls f).1,Qy (Zbi ls f).2.1,.int .i64 (Zbi ls f).2.2])/\Below w.1.size w w' from rfl);generalize ZcZ (Zbi ls f) w=post at*;have H:=jq (show Kp w [(w.1.size+1,#[.string ⟨#[]⟩,.string ⟨#[]⟩],26),(w.1.size,Qo f v,30)] ((w.alloc (.cells (Qo f v) 30)).alloc (.cells #[.string ⟨#[]⟩,.string ⟨#[]⟩] 26)) from((Kp.start hp).new w.1.size rfl (Qo f v) 30).new (w.1.size+1) (by simp) _ _);have HZ:=jq (QR f v);have hls:ls.length<=1002:=by rw[<-hs.1];exact hn
 have HVA:=jq (fun W (hb:Below w.1.size w W)=>Zao A n c ls f v W (hp.here hb) (hs.here hb) hl (by omega) hf (hm.here hb) hpn hon);have HTO:=jq (fun W (hb:Below w.1.size w W)=>Zca A n c ls f.inst W (hp.here hb) (hs.here hb) (by omega) (fun x hx=>(hl x hx).q) (fun x hx=>(hl x hx).c));have htl:(Qa (XT ls f.inst (fun z=>val z.q))).length<=18:=Jp (g:=(·.q)) (L:=13) (fun x hx=>hq x (List.mem_filter.1 hx).1) (Nat.le_trans (List.length_filter_le _ _) (by omega))
 have HPA:=jq (fun(hv:Xr ls f=true) W (hb:Below w.1.size w W)=>(show Calls Tryz.prog 46 #[S (Qa (XT ls f.inst (fun z=>val z.q))),Qy f.ratio] W (Jt (XP ls f) W) from by
  obtain⟨a1,a2⟩:=ZgF hv
  have hlok:=(Yd ls).1 a1;have hmok:=(VU _).1 a2;have h0:0<=XT ls f.inst (fun z=>val z.q):=QH (Yg (Qz hlok f.inst)).1;have h:=Zl4 (Qa (XT ls f.inst (fun z=>val z.q))) f.ratio W (hp.here hb) (by rw[Qc]) (by omega) hmok.ratio (h1.more (by omega)) (by rw[Qc];exact h0) hmok.r0;rw[Qc] at h;exact h))
 have HEN:=jq (show Zbi ls f=if Xr ls f=false then([],⟨[],[]⟩,1) else(Qa (QA (XP ls f)),Qg (XP ls f-((QA (XP ls f):Int):Rat)),0) from rfl);have K5:=jq (show(Qo f v)[5]?=some (.string ⟨f.inst.toArray⟩) from rfl);have K14:=jq (show(Qo f v)[14]?=some (.string ⟨f.ratio.n.toArray⟩) from rfl);have K15:=jq (show(Qo f v)[15]?=some (.string ⟨f.ratio.d.toArray⟩) from rfl);generalize Zbi ls f=ep at*;generalize Qo f v=fb at*;generalize Xr ls f=vb at*;unfold Jt ZaQ at*
 generalize Qa (XT ls f.inst (fun z=>val z.q))=tq at*;generalize Qa (XT ls f.inst (fun z=>val z.c))=tc at*;generalize Qa (QA (XP ls f))=tf at*;generalize Qg (XP ls f-((QA (XP ls f):Int):Rat))=ff at*;clear hp hs hl hq hn hf h1 hm hpn hon hls htl;unfold Qy S at*
 have hl0:=QP (H.out.at_ 1 rfl) HZ.out
 cases vb with
 |false=>
  rw[if_pos rfl] at HEN;go_enter Tryz.func17,Tryz.ntmps17
  go_wp2_with fail
  refine(HVA.out _ H.out.bl).mono ?_;rintro e w1 ⟨rfl,hb1⟩;have H1:=jq (H.out.here hb1);clear hl0 hb1 H;have n0:=H1.out.c 0 0 rfl rfl;have n1:=H1.out.c 0 1 rfl rfl;have f0:=H1.out.f 0 0 rfl;have f1:=H1.out.f 0 1 rfl;have HE:=jq ((H1.out.set 0 0 rfl (.string ⟨#[]⟩)).set 0 1 rfl (.string ⟨#[]⟩));go_wp2_with fail
  have r0:=HE.out.c 0 0 rfl rfl;have r1:=HE.out.c 0 1 rfl rfl;refine bodyPost_ret (v:=.tuple #[.string ⟨#[]⟩,.agg #[.string ⟨#[]⟩,.string ⟨#[]⟩],.int .i64 1]) (by simp[results,Tryz.results17,go_sem,r0,r1]) rfl ?_;rw[HPO.out,HEN.out];exact⟨rfl,HE.out.bl⟩
 |true=>
  rw[if_neg (by decide)] at HEN;have HPP:=jq (HPA.out rfl);clear HPA;go_enter Tryz.func17,Tryz.ntmps17
  go_wp2_with fail
  refine(HVA.out _ H.out.bl).mono ?_;rintro e w1 ⟨rfl,hb1⟩;have H1:=jq (H.out.here hb1);clear hl0 hb1 H;have x5:=H1.out.c 1 5 rfl K5.out;go_wp2_with fail
  refine(HTO.out _ H1.out.bl).mono ?_;rintro e w2 ⟨rfl,hb2⟩;have H2:=jq (H1.out.here hb2);clear x5 hb2 H1;have x14:=H2.out.c 1 14 rfl K14.out;have x15:=H2.out.c 1 15 rfl K15.out;go_wp2_with fail
  refine(HPP.out _ H2.out.bl).mono ?_;rintro e w3 ⟨rfl,hb3⟩;have H3:=jq (H2.out.here hb3);clear x14 x15 hb3 H2;have n0:=H3.out.c 0 0 rfl rfl;have n1:=H3.out.c 0 1 rfl rfl;have f0:=H3.out.f 0 0 rfl;have f1:=H3.out.f 0 1 rfl;have HE:=jq ((H3.out.set 0 0 rfl (.string ⟨ff.n.toArray⟩)).set 0 1 rfl (.string ⟨ff.d.toArray⟩));go_wp2_with fail
  have r0:=HE.out.c 0 0 rfl rfl;have r1:=HE.out.c 0 1 rfl rfl;refine bodyPost_ret (v:=.tuple #[.string ⟨tf.toArray⟩,.agg #[.string ⟨ff.n.toArray⟩,.string ⟨ff.d.toArray⟩],.int .i64 0]) (by simp[results,Tryz.results17,go_sem,r0,r1]) rfl ?_;rw[HPO.out,HEN.out];exact⟨rfl,HE.out.bl⟩
end
end Go.Proofs.YtmamnnaiogidaaaGreatDoor
