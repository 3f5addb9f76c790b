/- SE0, SE, SN. -/
import Derived.Test.YtmamnnaiogidaaaGreatDoorQGU6
import Derived.Test.YtmamnnaiogidaaaGreatDoorQGU37
set_option maxRecDepth 100000
set_option maxHeartbeats 8000000
namespace Go.Proofs.YtmamnnaiogidaaaGreatDoor
open Go.Lib renaming hid→jq
open Go.RowKit Go.Shelf
section
theorem ZjL{xs:List Gain}{k:Nat}{x:Gain}(h:xs[k]?=some x):Zbh (xs.take (k+1))=Zbh (xs.take k)+val x.proceeds:=by
 obtain⟨hk,rfl⟩:=List.getElem?_eq_some_iff.1 h
 unfold Zbh;rw[List.take_succ_eq_append_getElem hk,List.map_append,Qv];simp
theorem ZeT{xs:List Gain}{k:Nat}{x:Gain}(h:xs[k]?=some x):Vc (xs.take (k+1))=Vc (xs.take k)+val x.cost:=by
 obtain⟨hk,rfl⟩:=List.getElem?_eq_some_iff.1 h
 unfold Vc;rw[List.take_succ_eq_append_getElem hk,List.map_append,Qv];simp
theorem ZeU(ls:List Lot){xs:List Lot}{k:Nat}{x:Lot}(h:xs[k]?=some x):XD (Qr ls (xs.take (k+1)))=XD (Qr ls (xs.take k))+if x.id∈ls.map (·.id) then 0 else val x.c:=by
 obtain⟨hk,rfl⟩:=List.getElem?_eq_some_iff.1 h
 unfold XD;rw[List.take_succ_eq_append_getElem hk,ZdW,List.map_append,Qv]
 split<;>simp
theorem Znp{xs:List Gain}{K:Nat}(h:∀g∈xs,g.proceeds.length<=K)(hn:xs.length<=1000)(k:Nat):(Qa (Zbh (xs.take k))).length<=K+5:=by
 have h1:=Vb (l:=xs.take k) (g:=fun g=>val g.proceeds) (L:=K) (fun a ha=>Qp (h a (List.mem_of_mem_take ha))) (by rw[List.length_take];omega);exact Qd h1
theorem Znq{xs:List Gain}{K:Nat}(h:∀g∈xs,g.cost.length<=K)(hn:xs.length<=1000)(k:Nat):(Qa (Vc (xs.take k))).length<=K+5:=by
 have h1:=Vb (l:=xs.take k) (g:=fun g=>val g.cost) (L:=K) (fun a ha=>Qp (h a (List.mem_of_mem_take ha))) (by rw[List.length_take];omega);exact Qd h1
theorem Znr(ls:List Lot){xs:List Lot}{K:Nat}(h:∀g∈xs,g.c.length<=K)(hn:xs.length<=1000)(k:Nat):(Qa (XD (Qr ls (xs.take k)))).length<=K+5:=by
 have h1:=Vb (l:=Qr ls (xs.take k)) (g:=fun g=>val g.c) (L:=K) (fun a ha=>Qp (h a (List.mem_of_mem_take (List.mem_filter.1 ha).1))) (Nat.le_trans (Zck _ _) (by rw[List.length_take];omega));exact Qd h1
theorem ZfA{ls:List Lot}{f:Fct}(hq:∀y∈ls,y.q.length<=13/\y.c.length<=13)(hs:∀y∈ls,y.Sz 50000)(hr:f.ratio.Sz 13)(hpr:f.price.Sz 13):
 (∀y∈(Xk ls f).1.lots,y.q.length<=94/\y.c.length<=94/\y.Sz 50000)/\(∀g∈(Xk ls f).1.gains,g.cost.length<=94/\g.proceeds.length<=94)/\(Xk ls f).1.lots.length<=1000/\(Xk ls f).1.gains.length<=1000:=by
 by_cases h:(Xk ls f).2=0
 ·obtain⟨_,e,_⟩:=Zci h
  rw[e];obtain⟨h1,h2,h3,h4,h5,h6⟩:=Zl2 (m:=Js f) (L:=13) (by decide) (by decide) hq hs hr hpr
  exact⟨h1,h2,h4,h5⟩
 ·rw[ZlI h];exact⟨fun y hy=>(by cases hy),fun y hy=>(by cases hy),Nat.zero_le _,Nat.zero_le _⟩
theorem Zl3{ls:List Lot}{f:Fct}(h:(Xk ls f).2=0)(ho:Qb ls f.inst=[]):(Xk ls f).1=⟨ls,[],[]⟩:=by
 obtain⟨_,e,h0⟩:=Zci h
 rw[e]
 rcases XE ls (Js f) with ⟨e,he,h'⟩|⟨hl,hm,ho',h'⟩|⟨A,B,hM,h'⟩
 ·rw[h'] at h0;exact absurd h0 he
 ·rw[h']
 ·exact absurd ho hM.old
theorem ZjM(ls:List Lot){xs:List Lot}{k:Nat}{x:Lot}(h:xs[k]?=some x):JT (Qr ls (xs.take (k+1)))=JT (Qr ls (xs.take k))+if x.id∈ls.map (·.id) then 0 else val x.q:=by
 obtain⟨hk,rfl⟩:=List.getElem?_eq_some_iff.1 h
 unfold JT;rw[List.take_succ_eq_append_getElem hk,ZdW,List.map_append,Qv]
 split<;>simp
theorem ZiA(ls:List Lot){xs:List Lot}{K:Nat}(h:∀g∈xs,g.q.length<=K)(hn:xs.length<=1000)(k:Nat):(JT (Qr ls (xs.take k))).natAbs<10^(K+4):=
 Vb (l:=Qr ls (xs.take k)) (g:=fun g=>val g.q) (L:=K) (fun a ha=>Qp (h a (List.mem_of_mem_take (List.mem_filter.1 ha).1))) (Nat.le_trans (Zck _ _) (by rw[List.length_take];omega))
theorem ZiB(ls:List Lot){xs:List Lot}{K:Nat}(h:∀g∈xs,g.c.length<=K)(hn:xs.length<=1000)(k:Nat):(XD (Qr ls (xs.take k))).natAbs<10^(K+4):=
 Vb (l:=Qr ls (xs.take k)) (g:=fun g=>val g.c) (L:=K) (fun a ha=>Qp (h a (List.mem_of_mem_take (List.mem_filter.1 ha).1))) (Nat.le_trans (Zck _ _) (by rw[List.length_take];omega))
theorem Zns{xs:List Gain}{K:Nat}(h:∀g∈xs,g.cost.length<=K)(hn:xs.length<=1000)(k:Nat):(Vc (xs.take k)).natAbs<10^(K+4):=
 Vb (l:=xs.take k) (g:=fun g=>val g.cost) (L:=K) (fun a ha=>Qp (h a (List.mem_of_mem_take ha))) (by rw[List.length_take];omega)
theorem ZhT{a b:Int}{K:Nat}(ha:a.natAbs<10^K)(hb:b.natAbs<10^K):(Qa (a-b)).length<=K+2:=Qd (Yf ha hb)
theorem Znt{a b:Rat}(h:QV a b<0):QV a b= -1:=by
 unfold QV at h ⊢
 split
 ·rfl
 ·rename_i h1
  rw[if_neg h1] at h
  split at h<;>omega
theorem EffM.slice{ls:List Lot}{f:Fct}{base:Nat}{W:World}{E:Value}(h:EffM ls f base W E):∃Ae ne ce,E=.slice Ae ne ce/\((Xk ls f).2≠0->ne=0):=by
 rcases h with ⟨_,rfl⟩|⟨⟨h0,_⟩,pe,pt,rfl,_⟩
 ·exact⟨_,_,_,rfl,fun _=>rfl⟩
 ·exact⟨_,_,_,rfl,fun h=>absurd h0 h⟩
theorem Zoc{ls:List Lot}{f:Fct}(hq:∀x∈ls,x.q.length<=13)(hn:ls.length<=1002)(hr:f.ratio.Sz 13):(Qg (XP ls f-((QA (XP ls f):Int):Rat))).Sz 20000:=by
 have h:=Jp (g:=(·.q)) (l:=Qb ls f.inst) (L:=13) (fun x hx=>hq x (List.mem_filter.1 hx).1) (Nat.le_trans (List.length_filter_le _ _) (by omega));have h1:=Qp (a:=Qa (Vl (·.q) (Qb ls f.inst))) (L:=18) h;rw[Qc] at h1;have h2:RB 38 (XP ls f):=ZaR (Zfr (k:=XT ls f.inst (fun z=>val z.q)) h1 (by omega)) ((Zcl hr (by omega)).more (by omega));exact(Xe (Zip h2)).more (by omega)
end
section
attribute [local go_sem] Oper.semAt_some
attribute [local go_sem ↓] Go.wp_at_zero Go.wp_at_succ Yh
theorem ZfC(A:Option Addr)(n c:Nat)(ls:List Lot)(f:Fct)(v:FaV)(w:World)(hp:Env w)(hs:Xg w w.1.size A n ls)(hn:n<=maxLen)(hnil:(A=none/\c=0)\/∃a,A=some a)(hi:∀y∈ls,Lot.I y)(hm:FaM w w.1.size f v)(hpn:v.pn<=maxLen)(hon:v.on<=maxLen)(hx:f.Max):
 Calls Tryz.prog 3 #[.slice A n c,.agg (Qo f v)] w fun e w'=>e=.returned (.bool true)/\Below w.1.size w w':=by
 have hml:maxLen<=9223372036854775807:=by decide
 obtain rfl:n=ls.length:=hs.1;have H:=jq ((Kp.start hp).new w.1.size rfl (Qo f v) 30);have hl0:=QP (H.out.at_ 0 rfl) (QR f v)
 have HLG:=jq (fun W (hb:Below w.1.size w W)=>JI A ls.length c ls f v W (hp.here hb) (hs.here hb) (by omega) (hm.here hb) (by omega) (by omega) (by
  intro x hx';simp only[List.mem_cons,List.mem_nil_iff,or_false] at hx'
  rcases hx' with rfl|rfl|rfl
  ·exact hx.ratio
  ·exact hx.share
  ·exact hx.price))
 have HAW:=jq (fun W (hp:Env W)=>ZbX W hp.pow)
 have HAP:=jq (fun(hg:VD ls=false) (h1:f.Gs) (h2:v.pn<=66) (h3:v.on<=10) (hp':∀p∈f.picks,p.Sz 30) (ho:∀o∈f.options,o.Sz 24) (W:World) (hb:Below w.1.size w W)=>
  ZaB A ls.length c ls f v W (hp.here hb) (hs.here hb) hnil (XA hi hg).2.1 (fun x hx=>((YH hg hi).2 x hx).2.1) (XA hi hg).2.2 (XA hi hg).1 (h1.sz0 hx hp' ho) h1.ratio h1.share h1.price (hm.here hb) (by omega) (by omega))
 have HLO:=jq (fun(hg:VD ls=false) W (hb:Below w.1.size w W)=>Vp A ls.length c ls f.inst W (hs.here hb) (by have:=(XA hi hg).1;omega));have HLEN:=jq (fun(hg:VD ls=false) (h1:f.Gs)=>ZfA (ls:=ls) (f:=f) (fun y hy=>((YH hg hi).2 y hy).2) (XA hi hg).2.1 h1.ratio h1.price);have HGL:=jq (fun(hg:VD ls=false)=>(XA hi hg).1);have HZ:=jq (QR f v);have HS:=jq hs;have K0:=jq (show(Qo f v)[0]?=some (.string ⟨f.key.toArray⟩) from rfl);have K3:=jq (show(Qo f v)[3]?=some (.int .i64 f.day) from rfl);have K5:=jq (show(Qo f v)[5]?=some (.string ⟨f.inst.toArray⟩) from rfl);have K6:=jq (show(Qo f v)[6]?=some (.string ⟨f.other.toArray⟩) from rfl);generalize Qo f v=fb at*;clear hp hs hn hnil hi hm hpn hon hx hml;unfold RetOwn at HLO;unfold S at*
 go_enter Tryz.func3,Tryz.ntmps3
 go_wp2_with fail
 refine(HLG.out _ H.out.bl).mono ?_;rintro e w1 ⟨⟨b,rfl,hP⟩,hb1⟩;have HP:=jq hP;have H1:=jq (H.out.here hb1);clear hP hb1 hl0 H HLG
 cases b with
 |true=>
  go_wp2_with fail
  refine(HAW.out _ H1.out.pw).mono ?_;rintro e w2 ⟨rfl,hb2⟩;go_wp2_with fail
  first|go_ret|skip
  exact⟨rfl,(H1.out.here hb2).bl⟩
 |false=>
 obtain⟨g1,g2,g3,g4,g5,g6⟩:=HP.out rfl
 have HAX:=jq (HAP.out g1 g2 g3 g4 g5 g6);have HLX:=jq (HLO.out g1);have HLN:=jq (HLEN.out g1 g2);have HNL:=jq (HGL.out g1);clear g1 g2 g3 g4 g5 g6 HP HAP HLO HLEN HGL;have l1:=QP (H1.out.at_ 0 rfl) HZ.out;go_wp2_with fail
 refine(HAX.out _ H1.out.bl).mono ?_;rintro e w2 ⟨A1,c1,Ag,cg,As,cs,E,rfl,oL,oG,oS,hE,hb2⟩;clear l1 HAX;unfold EffM at hE
 rcases hE with ⟨hz,rfl⟩|⟨⟨h0,hlo⟩,pe,pt,rfl,_,_,be,bt⟩
 ·have H3:=jq ((H1.out.here hb2).new w2.1.size rfl #[.slice A1 (Xk ls f).1.lots.length c1,.slice Ag (Xk ls f).1.gains.length cg,.slice As (Xk ls f).1.steps.length cs,.slice none 0 0] 37)
  by_cases h0:(Xk ls f).2=0
  ·have hlo:Qb ls f.inst=[]:=hz.resolve_left (fun h=>h h0);rw[Zl3 h0 hlo] at oL H3 ⊢;rw[h0]
   dsimp only at oL H3 ⊢
   rw[List.length_nil] at H3 ⊢;rw[List.length_nil] at H3;have HO3:=jq (oL.alloc (.cells #[.slice A1 ls.length c1,.slice Ag 0 cg,.slice As 0 cs,.slice none 0 0] 37));have HEL:=jq (show ∀l:List Lot,l=Qb ls f.inst->l.length=0 from fun l h=>by rw[h,hlo];rfl);clear oL oG oS hb2 hz h0 hlo HLN H1;go_upto_region 4 with (fail)
   generalize w2.alloc _=W3 at*;have x5:=H3.out.c 1 5 rfl K5.out;go_wp2_with fail
   refine(HLX.out _ H3.out.bl).mono ?_;rintro e w4 ⟨A3,c3,rfl,ho3,hb4⟩;have H4:=jq (H3.out.here hb4);have HO4:=jq (HO3.out.below hb4);have HLZ:=jq (HEL.out _ rfl);rw[HLZ.out];clear x5 ho3 hb4 H3 HO3 HEL;have n0:=H4.out.c 0 0 rfl rfl;have n1:=H4.out.c 0 1 rfl rfl;have n2:=H4.out.c 0 2 rfl rfl;have n3:=H4.out.c 0 3 rfl rfl
   have HSM:=jq (show ∀W,Below w4.1.size w4 W->Calls Tryz.prog 10 #[.slice A1 ls.length c1,.slice A ls.length c] W fun e w'=>e=.returned (.bool true)/\Below W.1.size W w' from fun W hW=>
    ZjN A1 A ls.length c1 c ls W ((HO4.out.below hW).sl Ql) (HS.out.here (H4.out.here hW).bl) (by have:=HNL.out;omega))
   go_wp2_with fail
   refine(HSM.out _ (Below.refl _ _)).mono ?_;rintro e w5 ⟨rfl,hb5⟩;have H5:=jq (H4.out.here hb5);clear n0 n1 n2 n3 hb5;have n0:=H5.out.c 0 0 rfl rfl;have n1:=H5.out.c 0 1 rfl rfl;have n2:=H5.out.c 0 2 rfl rfl;have n3:=H5.out.c 0 3 rfl rfl;go_wp2_with fail
   refine(HAW.out _ H5.out.pw).mono ?_;rintro e w6 ⟨rfl,hb6⟩;go_wp2_with fail
   first|go_ret|skip
   exact⟨rfl,(H5.out.here hb6).bl⟩
  ·obtain⟨er,her⟩:∃er,er=(Xk ls f).2:=⟨_,rfl⟩
   rw[<-her] at h0 ⊢;have h0':(er !=0)=true:=by simpa using h0
   clear her hz h0 oL oG oS HLN;generalize (Xk ls f).1.lots.length=k1 at*;generalize (Xk ls f).1.gains.length=k2 at*;generalize (Xk ls f).1.steps.length=k3 at*;go_wp2_with fail
   refine(HAW.out _ H3.out.pw).mono ?_;rintro e w4 ⟨rfl,hb4⟩;go_wp2_with fail
   first|go_ret|skip
   exact⟨rfl,(H3.out.here hb4).bl⟩
 ·obtain⟨hc1,t,hm1⟩:=Zjz (Zci h0).2.2
  rw[<-(Zci h0).2.1] at hc1 hm1;rw[hc1,hm1] at bt
  dsimp only at bt
  rw[h0];obtain⟨q1,q2,q3,q4⟩:=HLN.out
  have HQ1:=jq (show ∀y∈(Xk ls f).1.lots,y.c.length<=94 from fun y hy=>(q1 y hy).2.1);have HQ2:=jq q2;have HQ3:=jq q3;have HQ4:=jq q4
  have HNE:=jq (show ∀l:List Lot,l=Qb ls f.inst->((l.length:Int)==0)=false from fun l h=>by
   rw[h];have:=List.length_pos_iff.2 hlo
   exact beq_false_of_ne (by omega))
  clear h0 hlo hc1 hm1 q1 q2 q3 q4 HLN t;generalize (Xk ls f).1.lots=lots at*;generalize (Xk ls f).1.gains=gains at*;generalize (Xk ls f).1.steps=steps at*;have H3:=jq ((H1.out.here hb2).new w2.1.size rfl #[.slice A1 lots.length c1,.slice Ag gains.length cg,.slice As steps.length cs,.slice (some ⟨pe,0,none⟩) 1 1] 37);have HO3:=jq (oL.alloc (.cells #[.slice A1 lots.length c1,.slice Ag gains.length cg,.slice As steps.length cs,.slice (some ⟨pe,0,none⟩) 1 1] 37));have HG3:=jq (oG.alloc (.cells #[.slice A1 lots.length c1,.slice Ag gains.length cg,.slice As steps.length cs,.slice (some ⟨pe,0,none⟩) 1 1] 37));have BE3:=jq (be.alloc (.cells #[.slice A1 lots.length c1,.slice Ag gains.length cg,.slice As steps.length cs,.slice (some ⟨pe,0,none⟩) 1 1] 37));have BT3:=jq (bt.alloc (.cells #[.slice A1 lots.length c1,.slice Ag gains.length cg,.slice As steps.length cs,.slice (some ⟨pe,0,none⟩) 1 1] 37));clear oL oG oS be bt hb2 H1;go_upto_region 4 with (fail)
  generalize w2.alloc _=W3 at*;have x5:=H3.out.c 1 5 rfl K5.out;go_wp2_with fail
  refine(HLX.out _ H3.out.bl).mono ?_;rintro e w4 ⟨A3,c3,rfl,ho3,hb4⟩;have H4:=jq (H3.out.here hb4);have HO4:=jq (HO3.out.below hb4);have HG4:=jq (HG3.out.below hb4);have BE4:=jq (BE3.out.here hb4);have BT4:=jq (BT3.out.here hb4);have hne:=HNE.out _ rfl;generalize (Qb ls f.inst).length=lol at*;clear x5 ho3 hb4 H3 HO3 HG3 BE3 BT3 HNE HLX;have n0:=H4.out.c 0 0 rfl rfl;have n1:=H4.out.c 0 1 rfl rfl;have n3:=H4.out.c 0 3 rfl rfl;have e0:=BE4.out.cell 0 rfl;have e1:=BE4.out.cell 1 rfl;have e2:=BE4.out.cell 2 rfl;have e3:=BE4.out.cell 3 rfl;have e4:=BE4.out.cell 4 rfl;have e5:=BE4.out.cell 5 rfl;have e6:=BE4.out.cell 6 rfl;have H5:=jq (H4.out.new w4.1.size rfl #[.int .i64 11,.int .i64 f.day,.string ⟨f.key.toArray⟩,.string ⟨f.inst.toArray⟩,.string ⟨f.other.toArray⟩,.string ⟨#[]⟩,.slice (some ⟨pt,0,none⟩) 3 3] 45);have HO5:=jq (HO4.out.alloc (.cells #[.int .i64 11,.int .i64 f.day,.string ⟨f.key.toArray⟩,.string ⟨f.inst.toArray⟩,.string ⟨f.other.toArray⟩,.string ⟨#[]⟩,.slice (some ⟨pt,0,none⟩) 3 3] 45));have HG5:=jq (HG4.out.alloc (.cells #[.int .i64 11,.int .i64 f.day,.string ⟨f.key.toArray⟩,.string ⟨f.inst.toArray⟩,.string ⟨f.other.toArray⟩,.string ⟨#[]⟩,.slice (some ⟨pt,0,none⟩) 3 3] 45));have BT5:=jq (BT4.out.alloc (.cells #[.int .i64 11,.int .i64 f.day,.string ⟨f.key.toArray⟩,.string ⟨f.inst.toArray⟩,.string ⟨f.other.toArray⟩,.string ⟨#[]⟩,.slice (some ⟨pt,0,none⟩) 3 3] 45));go_upto_region 11 with (fail)
  generalize w4.alloc _=W5 at*;clear n0 n1 n3 e0 e1 e2 e3 e4 e5 e6 H4 HO4 HG4 BE4 BT4 hne;have n1:=H5.out.c 1 1 rfl rfl;have hgl:=HQ4.out;go_wp2_with fail
  go_loopw [8,9,12,77] (fun a b _ i wr=>∃k:Nat,k<=gains.length/\i=.int .i64 k/\a=.string ⟨(Qa (Zbh (gains.take k))).toArray⟩/\b=.string ⟨(Qa (Vc (gains.take k))).toArray⟩/\Hid (Below W5.1.size W5 wr)) (fun _ _ _ i _=>gains.length-(intOf i).toNat)
  case atStart=>exact⟨0,Nat.zero_le _,rfl,rfl,rfl,Below.refl _ _⟩
  case round=>
   clear n1;obtain⟨k,hk,rfl,rfl,rfl,HBR⟩:=hrel
   by_cases hlt:k<gains.length
   ·obtain⟨b,off,y,rfl,hb,hy,d0,d1,d2,d3,d4,d5,d6,d7,d8,d9⟩:=((HG5.out.below HBR.out).sl ZcX).gain hlt
    have HTP:=jq (ZjL hy);have HTG:=jq (ZeT hy);have HA1:=jq (fun W hp=>Xv (Qa (Zbh (gains.take k))) y.proceeds W hp (by have:=Znp (fun g hg=>(HQ2.out g hg).2) HQ4.out k;omega) (by have:=(HQ2.out y (List.mem_of_getElem? hy)).2;omega));have HA2:=jq (fun W hp=>Xv (Qa (Vc (gains.take k))) y.cost W hp (by have:=Znq (fun g hg=>(HQ2.out g hg).1) HQ4.out k;omega) (by have:=(HQ2.out y (List.mem_of_getElem? hy)).1;omega));rw[Qc,<-HTP.out] at HA1;rw[Qc,<-HTG.out] at HA2;unfold S at HA1 HA2;have HB1:=jq (HBR.out.alloc HBR.out.size (.cells #[.string ⟨y.cause.toArray⟩,.string ⟨y.lot.toArray⟩,.string ⟨y.inst.toArray⟩,.int .i64 y.acq,.int .i64 y.closed,.string ⟨y.q.toArray⟩,.string ⟨y.proceeds.toArray⟩,.string ⟨y.cost.toArray⟩,.string ⟨y.deferred.toArray⟩,.string ⟨y.replaced.toArray⟩] 47));have HY:=jq (show BlkB (wr.alloc (.cells #[.string ⟨y.cause.toArray⟩,.string ⟨y.lot.toArray⟩,.string ⟨y.inst.toArray⟩,.int .i64 y.acq,.int .i64 y.closed,.string ⟨y.q.toArray⟩,.string ⟨y.proceeds.toArray⟩,.string ⟨y.cost.toArray⟩,.string ⟨y.deferred.toArray⟩,.string ⟨y.replaced.toArray⟩] 47)) wr.1.size #[.string ⟨y.cause.toArray⟩,.string ⟨y.lot.toArray⟩,.string ⟨y.inst.toArray⟩,.int .i64 y.acq,.int .i64 y.closed,.string ⟨y.q.toArray⟩,.string ⟨y.proceeds.toArray⟩,.string ⟨y.cost.toArray⟩,.string ⟨y.deferred.toArray⟩,.string ⟨y.replaced.toArray⟩] 47 from heap_alloc_new wr _);clear hy hb;go_upto_region 15 with (fail)
    clear d0 d1 d2 d3 d4 d5 d6 d7 d8 d9;generalize wr.alloc _=W6 at*;generalize wr.1.size=bx at*;have hS:=jq (fun V (h:Bz W6 V)=>(show V.cell? ⟨bx,6,none⟩=some (.string ⟨y.proceeds.toArray⟩)/\V.cell? ⟨bx,7,none⟩=some (.string ⟨y.cost.toArray⟩) from⟨(HY.out.here h).cell 6 rfl,(HY.out.here h).cell 7 rfl⟩));have hE:=jq (fun V (h:Bz W6 V)=>(H5.out.here (HB1.out.trans (h.mono HB1.out.size))).po);generalize hp0:Qa (Zbh (gains.take k))=p0 at*;generalize hp1:Qa (Vc (gains.take k))=p1 at*;clear hp0 hp1;obtain⟨s06,s07⟩:=hS.out _ (Bz.refl _)
    go_region_held3 (fun V=>V.cell? ⟨bx,6,none⟩=some (.string ⟨y.proceeds.toArray⟩)/\V.cell? ⟨bx,7,none⟩=some (.string ⟨y.cost.toArray⟩))
     (first
       |exact hS.out _ (by repeat' (first|assumption|exact Bz.refl _|refine Bz.drew ?_|refine Bz.alloc ?_ _|refine Bz.set ?_ (by first|assumption|exact Nat.le_refl _|exact Bz.size (by assumption)) _ _))
       |go_keep)
     (first
       |(go_at_call_of 11 (Value.string ⟨p0.toArray⟩);refine(HA1.out _ (hE.out _ (by repeat' (first|assumption|exact Bz.refl _|refine Bz.drew ?_|refine Bz.alloc ?_ _|refine Bz.set ?_ (by first|assumption|exact Nat.le_refl _|exact Bz.size (by assumption)) _ _)))).mono ?_;rintro e v1 ⟨rfl,hb1⟩;have hz1:Bz W6 v1:=Bz.call (by repeat' (first|assumption|exact Bz.refl _|refine Bz.drew ?_|refine Bz.alloc ?_ _|refine Bz.set ?_ (by first|assumption|exact Nat.le_refl _|exact Bz.size (by assumption)) _ _)) hb1)
       |(go_at_call_of 11 (Value.string ⟨p1.toArray⟩);refine(HA2.out _ (hE.out _ (by repeat' (first|assumption|exact Bz.refl _|refine Bz.drew ?_|refine Bz.alloc ?_ _|refine Bz.set ?_ (by first|assumption|exact Nat.le_refl _|exact Bz.size (by assumption)) _ _)))).mono ?_;rintro e v2 ⟨rfl,hb2⟩;have hz2:Bz W6 v2:=Bz.call (by repeat' (first|assumption|exact Bz.refl _|refine Bz.drew ?_|refine Bz.alloc ?_ _|refine Bz.set ?_ (by first|assumption|exact Nat.le_refl _|exact Bz.size (by assumption)) _ _)) hb2))
    all_goals
     go_wp2_with fail
     first
      |exact⟨⟨k+1,by omega,by go_num,rfl,rfl,HB1.out.trans (hz2.mono HB1.out.size)⟩,by simp[intOf];omega⟩
      |exact⟨⟨k+1,by omega,by go_num,rfl,rfl,HB1.out.trans (hz1.mono HB1.out.size)⟩,by simp[intOf];omega⟩
   ·obtain rfl:k=gains.length:=by omega
    rw[List.take_of_length_le (Nat.le_refl _)];have H6:=jq (H5.out.here HBR.out);have HO6:=jq (HO5.out.below HBR.out);have BT6:=jq (BT5.out.here HBR.out);clear HBR H5 HO5 HG5 BT5 hgl hlt hk HQ2 HQ4;generalize wr=wq at*;have n0:=H6.out.c 1 0 rfl rfl;have hll:=HQ3.out;go_wp2_with fail
    go_loopw [10,14,15,16,93] (fun a _ _ _ i wr=>∃k:Nat,k<=lots.length/\i=.int .i64 k/\a=.string ⟨(Qa (XD (Qr ls (lots.take k)))).toArray⟩/\Hid (Below wq.1.size wq wr)) (fun _ _ _ _ i _=>lots.length-(intOf i).toNat)
    case atStart=>exact⟨0,Nat.zero_le _,rfl,rfl,Below.refl _ _⟩
    case round=>
     clear n0;obtain⟨k,hk,rfl,rfl,HBR⟩:=hrel
     by_cases hlt:k<lots.length
     ·obtain⟨b,off,y,rfl,hb,hy,d0,d1,d2,d3,d4,d5,d6⟩:=((HO6.out.below HBR.out).sl Ql).lot7 hlt
      have HTC:=jq (ZeU ls hy);have HFM:=jq (ZbK ls y.id);have HA1:=jq (fun W hp=>Xv (Qa (XD (Qr ls (lots.take k)))) y.c W hp (by have:=Znr ls HQ1.out HQ3.out k;omega) (by have:=HQ1.out y (List.mem_of_getElem? hy);omega));rw[Qc] at HA1;have HB1:=jq (HBR.out.alloc HBR.out.size (.cells #[.string ⟨y.id.toArray⟩,.string ⟨y.inst.toArray⟩,.int .i64 y.acq,.int .i64 y.opn,.string ⟨y.q.toArray⟩,.string ⟨y.c.toArray⟩,.string ⟨y.u.toArray⟩] 50));have HY:=jq (show BlkB (wr.alloc (.cells #[.string ⟨y.id.toArray⟩,.string ⟨y.inst.toArray⟩,.int .i64 y.acq,.int .i64 y.opn,.string ⟨y.q.toArray⟩,.string ⟨y.c.toArray⟩,.string ⟨y.u.toArray⟩] 50)) wr.1.size #[.string ⟨y.id.toArray⟩,.string ⟨y.inst.toArray⟩,.int .i64 y.acq,.int .i64 y.opn,.string ⟨y.q.toArray⟩,.string ⟨y.c.toArray⟩,.string ⟨y.u.toArray⟩] 50 from heap_alloc_new wr _);have HFD:=jq (fun W (hb:Below w.1.size w W)=>Jr A ls.length c ls y.id W (HS.out.here hb) (by have:=HNL.out;omega));unfold S at HA1 HFD;generalize max (Zax ls y.id) 0=mx at*;generalize decide (0<=Zax ls y.id)=fd at*;clear hy hb;go_upto_region 20 with (fail)
      clear d0 d1 d2 d3 d4 d5 d6;generalize wr.alloc _=W7 at*;generalize wr.1.size=bx at*;have y0:=HY.out.cell 0 rfl;go_wp2_with fail
      refine(HFD.out _ (H6.out.here HB1.out).bl).mono ?_;rintro e w8 ⟨rfl,hb8⟩;have HB8:=jq (HB1.out.trans (hb8.mono HB1.out.size));have HY8:=jq (HY.out.here hb8);clear y0 hb8 HB1 HY HFD
      cases fd with
      |true=>
       have HNE:=jq (show XD (Qr ls (lots.take (k+1)))=XD (Qr ls (lots.take k)) by rw[HTC.out,if_pos (by simpa using HFM.out),Int.add_zero]);go_wp2_with fail
       go_roundw
       case rel=>exact⟨k+1,by omega,by go_num,by rw[HNE.out],HB8.out⟩
       case measure=>simp[intOf];omega
      |false=>
       have HNE:=jq (show XD (Qr ls (lots.take (k+1)))=XD (Qr ls (lots.take k))+val y.c by rw[HTC.out,if_neg (by simpa using HFM.out)]);rw[<-HNE.out] at HA1;have y5:=HY8.out.cell 5 rfl;go_wp2_with fail
       refine(HA1.out _ (H6.out.here HB8.out).po).mono ?_;rintro e w9 ⟨rfl,hb9⟩;go_wp2_with fail
       go_roundw
       case rel=>exact⟨k+1,by omega,by go_num,rfl,HB8.out.trans (hb9.mono HB8.out.size)⟩
       case measure=>simp[intOf];omega
     ·obtain rfl:k=lots.length:=by omega
      rw[List.take_of_length_le (Nat.le_refl _)];have H7:=jq (H6.out.here HBR.out);have BT7:=jq (BT6.out.here HBR.out);have HB7:=jq HBR.out;clear HBR H6 HO6 BT6 hlt hk hll;have e0:=H7.out.c 0 0 rfl rfl;have e1:=H7.out.c 0 1 rfl rfl;have e2:=H7.out.c 0 2 rfl rfl;have e3:=H7.out.c 0 3 rfl rfl;have e4:=H7.out.c 0 4 rfl rfl;have e5:=H7.out.c 0 5 rfl rfl;have e6:=H7.out.c 0 6 rfl rfl;have x0:=H7.out.c 2 0 rfl K0.out;have x3:=H7.out.c 2 3 rfl K3.out;have x5:=H7.out.c 2 5 rfl K5.out;have x6:=H7.out.c 2 6 rfl K6.out;have HAT:=jq ((Bz.refl wr).alloc (.cells #[.string ⟨#[99,97,115,104]⟩,.string ⟨(Qa (Zbh gains)).toArray⟩,.string ⟨#[99,111,115,116]⟩,.string ⟨(Qa (Vc gains)).toArray⟩,.string ⟨#[109,111,118,101,100]⟩,.string ⟨(Qa (XD (Qr ls lots))).toArray⟩] 55));have h2:Frs (wr.alloc (.cells #[.string ⟨#[99,97,115,104]⟩,.string ⟨(Qa (Zbh gains)).toArray⟩,.string ⟨#[99,111,115,116]⟩,.string ⟨(Qa (Vc gains)).toArray⟩,.string ⟨#[109,111,118,101,100]⟩,.string ⟨(Qa (XD (Qr ls lots))).toArray⟩] 55)) (wr.1.size+1) (some ⟨wr.1.size,0,none⟩) 3 [⟨[99,97,115,104],Qa (Zbh gains)⟩,⟨[99,111,115,116],Qa (Vc gains)⟩,⟨[109,111,118,101,100],Qa (XD (Qr ls lots))⟩]:=Sl.lit wr _ 55 ([⟨[99,97,115,104],Qa (Zbh gains)⟩,⟨[99,111,115,116],Qa (Vc gains)⟩,⟨[109,111,118,101,100],Qa (XD (Qr ls lots))⟩]:List Fr) rfl Zdj;have HEQ:=jq (ZfB (some ⟨pt,0,none⟩) (some ⟨wr.1.size,0,none⟩) 3 3 3 ([⟨[99,97,115,104],Qa (Zbh gains)⟩,⟨[99,111,115,116],Qa (Vc gains)⟩,⟨[109,111,118,101,100],Qa (XD (Qr ls lots))⟩]:List Fr) (wr.alloc (.cells #[.string ⟨#[99,97,115,104]⟩,.string ⟨(Qa (Zbh gains)).toArray⟩,.string ⟨#[99,111,115,116]⟩,.string ⟨(Qa (Vc gains)).toArray⟩,.string ⟨#[109,111,118,101,100]⟩,.string ⟨(Qa (XD (Qr ls lots))).toArray⟩] 55)) (Znu (BT7.out.alloc _)) (h2.more (by simp)) (by decide));clear h2;have b1:(f.key.toArray==f.key.toArray)=true:=by simp
      have b2:(f.inst.toArray==f.inst.toArray)=true:=by simp
      have b3:(f.other.toArray==f.other.toArray)=true:=by simp
      have b4:(f.day==f.day)=true:=by simp
      go_wp2_with fail
      refine HEQ.out.mono ?_;rintro e w8 ⟨rfl,hb8⟩;have H8:=jq (H7.out.here (HAT.out.trans (hb8.mono HAT.out.size)));clear e0 e1 e2 e3 e4 e5 e6 x0 x3 x5 x6;go_wp2_with fail
      refine(HAW.out _ H8.out.pw).mono ?_;rintro e w9 ⟨rfl,hb9⟩;go_wp2_with fail
      first|go_ret|skip
      exact⟨rfl,(H8.out.here hb9).bl⟩
end
section
attribute [local go_sem] Oper.semAt_some
attribute [local go_sem ↓] Go.wp_at_zero Go.wp_at_succ Yh
theorem ZjO(x y:Lot)(B:Nat)(W:World)(h2:W.cell? ⟨B,2,none⟩=some (.int .i64 y.acq))(h3:W.cell? ⟨B,3,none⟩=some (.int .i64 y.opn)):
 Calls Tryz.prog 20 (#[XV x]++#[.pointer (some ⟨B,0,none⟩)]) W fun e w'=>e=.returned (.bool (x.acq==y.acq&&x.opn==y.opn))/\Below W.1.size W w':=by
 have hb:=(Below.refl W.1.size W).alloc (Nat.le_refl _) (.cells #[.string ⟨x.id.toArray⟩,.string ⟨x.inst.toArray⟩,.int .i64 x.acq,.int .i64 x.opn,.string ⟨x.q.toArray⟩,.string ⟨x.c.toArray⟩,.string ⟨x.u.toArray⟩] 50);have hlt:=World.block_lt_of_cell? W _ h2;have HB:=jq hb;have c2:=(hb.cell (p:=⟨B,2,none⟩) hlt).trans h2;have c3:=(hb.cell (p:=⟨B,3,none⟩) hlt).trans h3;have hn:BlkB (W.alloc (.cells #[.string ⟨x.id.toArray⟩,.string ⟨x.inst.toArray⟩,.int .i64 x.acq,.int .i64 x.opn,.string ⟨x.q.toArray⟩,.string ⟨x.c.toArray⟩,.string ⟨x.u.toArray⟩] 50)) W.1.size #[.string ⟨x.id.toArray⟩,.string ⟨x.inst.toArray⟩,.int .i64 x.acq,.int .i64 x.opn,.string ⟨x.q.toArray⟩,.string ⟨x.c.toArray⟩,.string ⟨x.u.toArray⟩] 50:=heap_alloc_new W _;have d2:=hn.cell 2 rfl;have d3:=hn.cell 3 rfl;clear hb hlt h2 h3 hn;unfold XV S
 show Calls _ _ #[.agg #[.string ⟨x.id.toArray⟩,.string ⟨x.inst.toArray⟩,.int .i64 x.acq,.int .i64 x.opn,.string ⟨x.q.toArray⟩,.string ⟨x.c.toArray⟩,.string ⟨x.u.toArray⟩],.pointer (some ⟨B,0,none⟩)] _ _
 cases ha:(x.acq==y.acq) with
 |true=>
  go_enter Tryz.func20,Tryz.ntmps20
  go_wp2_with fail
  first|go_ret|skip
  exact⟨Qi (by simp),HB.out⟩
 |false=>
  go_enter Tryz.func20,Tryz.ntmps20
  go_wp2_with fail
  first|go_ret|skip
  exact⟨rfl,HB.out⟩
theorem Zl5(A:Option Addr)(n c:Nat)(ls:List Lot)(f:Fct)(v:FaV)(w:World)(hp:Env w)(hs:Xg w w.1.size A n ls)(hn:n<=maxLen)(hnil:(A=none/\c=0)\/∃a,A=some a)(hi:∀y∈ls,Lot.I y)(hm:FaM w w.1.size f v)(hpn:v.pn<=maxLen)(hon:v.on<=maxLen)(hx:f.Max):
 Calls Tryz.prog 5 #[.slice A n c,.agg (Qo f v)] w fun e w'=>e=.returned (.bool true)/\Below w.1.size w w':=by
 have hml:maxLen<=9223372036854775807:=by decide
 obtain rfl:n=ls.length:=hs.1;have H:=jq ((Kp.start hp).new w.1.size rfl (Qo f v) 30);have hl0:=QP (H.out.at_ 0 rfl) (QR f v)
 have HLG:=jq (fun W (hb:Below w.1.size w W)=>JI A ls.length c ls f v W (hp.here hb) (hs.here hb) (by omega) (hm.here hb) (by omega) (by omega) (by
  intro x hx';simp only[List.mem_cons,List.mem_nil_iff,or_false] at hx'
  rcases hx' with rfl|rfl|rfl
  ·exact hx.ratio
  ·exact hx.share
  ·exact hx.price))
 have HAW:=jq (fun W (hp:Env W)=>ZbX W hp.pow)
 have HAP:=jq (fun(hg:VD ls=false) (h1:f.Gs) (h2:v.pn<=66) (h3:v.on<=10) (hp':∀p∈f.picks,p.Sz 30) (ho:∀o∈f.options,o.Sz 24) (W:World) (hb:Below w.1.size w W)=>
  ZaB A ls.length c ls f v W (hp.here hb) (hs.here hb) hnil (XA hi hg).2.1 (fun x hx=>((YH hg hi).2 x hx).2.1) (XA hi hg).2.2 (XA hi hg).1 (h1.sz0 hx hp' ho) h1.ratio h1.share h1.price (hm.here hb) (by omega) (by omega))
 have HEN:=jq (fun(hg:VD ls=false) (h1:f.Gs) (h2:v.pn<=66) (h3:v.on<=10) (hp':∀p∈f.picks,p.Sz 30) (ho:∀o∈f.options,o.Sz 24) (W:World) (hb:Below w.1.size w W)=>
  ZfD A ls.length c ls f v W (hp.here hb) (hs.here hb) (XA hi hg).2.1 (fun x hx=>((YH hg hi).2 x hx).2.1) (XA hi hg).1 (h1.sz0 hx hp' ho) h1.ratio (hm.here hb) (by omega) (by omega))
 have HLO:=jq (fun(hg:VD ls=false) W (hb:Below w.1.size w W)=>Vp A ls.length c ls f.inst W (hs.here hb) (by have:=(XA hi hg).1;omega));have HLEN:=jq (fun(hg:VD ls=false) (h1:f.Gs)=>ZfA (ls:=ls) (f:=f) (fun y hy=>((YH hg hi).2 y hy).2) (XA hi hg).2.1 h1.ratio h1.price);have HGL:=jq (fun(hg:VD ls=false) (h1:f.Gs)=>And.intro (XA hi hg).1 (Zoc (fun x hx=>((YH hg hi).2 x hx).2.1) (XA hi hg).1 h1.ratio));have HZ:=jq (QR f v);have HS:=jq hs;have K5:=jq (show(Qo f v)[5]?=some (.string ⟨f.inst.toArray⟩) from rfl);have K6:=jq (show(Qo f v)[6]?=some (.string ⟨f.other.toArray⟩) from rfl);have HOF:=jq (fun W (hp:Env W)=>Vj [49] W hp.pow (by simp));rw[show Qg ((val [49]:Int):Rat)=⟨[49],[]⟩ by rw[VN];exact Zko] at HOF;generalize Qo f v=fb at*;clear hp hs hn hnil hi hm hpn hon hx hml;unfold RetOwn at HLO;unfold QJ Qy S at*
 go_enter Tryz.func5,Tryz.ntmps5
 go_wp2_with fail
 refine(HLG.out _ H.out.bl).mono ?_;rintro e w1 ⟨⟨b,rfl,hP⟩,hb1⟩;have HP:=jq hP;have H1:=jq (H.out.here hb1);clear hP hb1 hl0 H HLG
 cases b with
 |true=>
  go_wp2_with fail
  refine(HAW.out _ H1.out.pw).mono ?_;rintro e w2 ⟨rfl,hb2⟩;go_wp2_with fail
  first|go_ret|skip
  exact⟨rfl,(H1.out.here hb2).bl⟩
 |false=>
 obtain⟨g1,g2,g3,g4,g5,g6⟩:=HP.out rfl
 have HAX:=jq (HAP.out g1 g2 g3 g4 g5 g6);have HEX:=jq (HEN.out g1 g2 g3 g4 g5 g6);have HLX:=jq (HLO.out g1);have HLN:=jq (HLEN.out g1 g2);have HNL:=jq (HGL.out g1 g2);clear g1 g2 g3 g4 g5 g6 HP HAP HEN HLO HLEN HGL;have l1:=QP (H1.out.at_ 0 rfl) HZ.out;go_wp2_with fail
 refine(HAX.out _ H1.out.bl).mono ?_;rintro e w2 ⟨A1,c1,Ag,cg,As,cs,E,rfl,oL,oG,oS,hE,hb2⟩;clear l1 HAX;obtain⟨Ae,ne,ce,rfl,hne⟩:=hE.slice
 clear hE hne;obtain⟨er,her⟩:∃er,er=(Xk ls f).2:=⟨_,rfl⟩
 rw[<-her];have HER:=jq her;have H3:=jq ((H1.out.here hb2).new w2.1.size rfl #[.slice A1 (Xk ls f).1.lots.length c1,.slice Ag (Xk ls f).1.gains.length cg,.slice As (Xk ls f).1.steps.length cs,.slice Ae ne ce] 37);have HO3:=jq (oL.alloc (.cells #[.slice A1 (Xk ls f).1.lots.length c1,.slice Ag (Xk ls f).1.gains.length cg,.slice As (Xk ls f).1.steps.length cs,.slice Ae ne ce] 37));clear her oL oG oS hb2 H1;go_upto_region 4 with (fail)
 generalize w2.alloc _=W3 at*;have l3:=QP (H3.out.at_ 1 rfl) HZ.out;unfold ZcZ Qy S at HEX;go_wp2_with fail
 refine(HEX.out _ H3.out.bl).mono ?_;rintro e w4 ⟨rfl,hb4⟩;have hsz:=HNL.out.2;have H5:=jq ((H3.out.here hb4).new w4.1.size rfl #[.string ⟨(Zbi ls f).2.1.n.toArray⟩,.string ⟨(Zbi ls f).2.1.d.toArray⟩] 26);have HO5:=jq ((HO3.out.below hb4).alloc (.cells #[.string ⟨(Zbi ls f).2.1.n.toArray⟩,.string ⟨(Zbi ls f).2.1.d.toArray⟩] 26));clear l3 hb4 H3 HO3 HEX
 by_cases h0:er=0
 rotate_left
 ·have h0':(er !=0)=true:=by simpa using h0
  clear HER h0 hsz HO5 HLN HNL;generalize Zbi ls f=ep at*;generalize (Xk ls f).1.lots.length=k1 at*;generalize (Xk ls f).1.gains.length=k2 at*;generalize (Xk ls f).1.steps.length=k3 at*;go_wp2_with fail
  refine(HAW.out _ H5.out.pw).mono ?_;rintro e w6 ⟨rfl,hb6⟩;go_wp2_with fail
  first|go_ret|skip
  exact⟨rfl,(H5.out.here hb6).bl⟩
 have her:(Xk ls f).2=0:=by rw[<-HER.out];exact h0
 obtain⟨hv,hap,hz0⟩:=Zci her
 obtain⟨n1,n2,n3⟩:=ZjA hz0
 rw[<-hap] at n1 n2 n3;have hep:Zbi ls f=(Qa (QA (XP ls f)),Qg (XP ls f-((QA (XP ls f):Int):Rat)),0):=by unfold Zbi;rw[if_neg (by rw[hv];decide)]
 rw[hep] at H5 HO5 ⊢
 dsimp only at H5 HO5 ⊢
 obtain⟨q1,q2,q3,q4⟩:=HLN.out
 have HQ1:=jq (show ∀y∈(Xk ls f).1.lots,y.q.length<=94 from fun y hy=>(q1 y hy).1);have HQ3:=jq q3;have HQ4:=jq q4;have HPT:=jq (ZhL (XP ls f)).2;have HCM:=jq (fun W hp=>Xw (Qg (XP ls f-((QA (XP ls f):Int):Rat))) ⟨[49],[]⟩ W hp hsz ⟨by simp,by simp⟩);rw[Qh,show(⟨[49],[]⟩:Fr).rat=1 by decide+kernel] at HCM;have HN1:=jq n1;have HN3:=jq n3;have HPZ:=jq (show(XP ls f-((QA (XP ls f):Int):Rat)=0->Qg (XP ls f-((QA (XP ls f):Int):Rat))=⟨[],[]⟩/\(Xk ls f).1.gains.length=0)/\(¬XP ls f-((QA (XP ls f):Int):Rat)=0->((Qg (XP ls f-((QA (XP ls f):Int):Rat))).n==[])=false) from⟨fun h=>⟨by rw[h];exact Zne,n2 h⟩,fun h=>ZlN h⟩);subst h0;clear hsz her hv hap hz0 n1 n2 n3 hep q1 q2 q3 q4 HLN HER;generalize (Xk ls f).1.lots=lots at*;generalize (Xk ls f).1.gains.length=gl at*;generalize (Xk ls f).1.steps.length=sl at*;generalize XP ls f-((QA (XP ls f):Int):Rat)=part at*;generalize QA (XP ls f)=PQ at*;obtain⟨cz,hcz⟩:∃cz,cz=QV part 1:=⟨_,rfl⟩
 rw[<-hcz] at HCM HPT
 have hcn:cz= -1:=by
  have h1:=HPT.out;rw[hcz] at h1 ⊢;exact Znt (Int.not_le.1 h1)
 subst hcn;clear hcz HPT;generalize hff:Qg part=ff at*;unfold QI Qy S at HCM;go_upto_region 5 with (fail)
 generalize w4.alloc _=W5 at*;go_upto_region 7 with (fail)
 have hS:=jq (fun V (h:Bz W5 V)=>(show V.cell? ⟨w4.1.size,0,none⟩=some (.string ⟨ff.n.toArray⟩)/\V.cell? ⟨w4.1.size,1,none⟩=some (.string ⟨ff.d.toArray⟩)/\V.cell? ⟨w2.1.size,1,none⟩=some (.slice Ag gl cg) from⟨(H5.out.here h).c 0 0 rfl rfl,(H5.out.here h).c 0 1 rfl rfl,(H5.out.here h).c 1 1 rfl rfl⟩));have hE:=jq (fun V (h:Bz W5 V)=>(H5.out.here h).pw);obtain⟨s0,s1,s2⟩:=hS.out _ (Bz.refl _)
 go_cut [54] (fun b wc=>b=.bool false/\Hid (Bz W5 wc))
 case first=>
  by_cases hp0:part=0
  ·obtain⟨z1,z2⟩:=HPZ.out.1 hp0
   subst z1;subst z2;clear hp0 hff HPZ
   go_region_held3 (fun V=>V.cell? ⟨w4.1.size,0,none⟩=some (.string ⟨([]:List UInt8).toArray⟩)/\V.cell? ⟨w4.1.size,1,none⟩=some (.string ⟨([]:List UInt8).toArray⟩)/\V.cell? ⟨w2.1.size,1,none⟩=some (.slice Ag 0 cg))
    (first
      |exact hS.out _ (by repeat' (first|assumption|exact Bz.refl _|refine Bz.drew ?_|refine Bz.alloc ?_ _|refine Bz.set ?_ (by first|assumption|exact Nat.le_refl _|exact Bz.size (by assumption)) _ _))
      |go_keep)
    (first
      |(go_at_call 19;refine(HOF.out _ (hE.out _ (by repeat' (first|assumption|exact Bz.refl _|refine Bz.drew ?_|refine Bz.alloc ?_ _|refine Bz.set ?_ (by first|assumption|exact Nat.le_refl _|exact Bz.size (by assumption)) _ _)))).mono ?_;rintro e v1 ⟨rfl,hb1⟩;have hz1:Bz W5 v1:=Bz.call (by repeat' (first|assumption|exact Bz.refl _|refine Bz.drew ?_|refine Bz.alloc ?_ _|refine Bz.set ?_ (by first|assumption|exact Nat.le_refl _|exact Bz.size (by assumption)) _ _)) hb1)
      |(go_at_call 18;refine(HCM.out _ (hE.out _ (by repeat' (first|assumption|exact Bz.refl _|refine Bz.drew ?_|refine Bz.alloc ?_ _|refine Bz.set ?_ (by first|assumption|exact Nat.le_refl _|exact Bz.size (by assumption)) _ _))).pow).mono ?_;rintro e v2 ⟨rfl,hb2⟩;have hz2:Bz W5 v2:=Bz.call (by repeat' (first|assumption|exact Bz.refl _|refine Bz.drew ?_|refine Bz.alloc ?_ _|refine Bz.set ?_ (by first|assumption|exact Nat.le_refl _|exact Bz.size (by assumption)) _ _)) hb2))
   all_goals
    go_wp2_with fail
    go_meet
    exact⟨rfl,hz2⟩
  ·have z1:=HPZ.out.2 hp0;clear hp0 hff HPZ
   have zi:ff.n.isEmpty=false:=by
    cases h:ff.n with
    |nil=>rw[h] at z1;cases z1
    |cons a l=>rfl
   first
    |(go_region_with
       (first
         |(go_at_call 19;refine(HOF.out _ (hE.out _ (by repeat' (first|assumption|exact Bz.refl _|refine Bz.drew ?_|refine Bz.alloc ?_ _|refine Bz.set ?_ (by first|assumption|exact Nat.le_refl _|exact Bz.size (by assumption)) _ _)))).mono ?_;rintro e v1 ⟨rfl,hb1⟩;have hz1:Bz W5 v1:=Bz.call (by repeat' (first|assumption|exact Bz.refl _|refine Bz.drew ?_|refine Bz.alloc ?_ _|refine Bz.set ?_ (by first|assumption|exact Nat.le_refl _|exact Bz.size (by assumption)) _ _)) hb1;obtain⟨p10,p11,p12⟩:=hS.out _ hz1)
         |(go_at_call 18;refine(HCM.out _ (hE.out _ (by repeat' (first|assumption|exact Bz.refl _|refine Bz.drew ?_|refine Bz.alloc ?_ _|refine Bz.set ?_ (by first|assumption|exact Nat.le_refl _|exact Bz.size (by assumption)) _ _))).pow).mono ?_;rintro e v2 ⟨rfl,hb2⟩;have hz2:Bz W5 v2:=Bz.call (by repeat' (first|assumption|exact Bz.refl _|refine Bz.drew ?_|refine Bz.alloc ?_ _|refine Bz.set ?_ (by first|assumption|exact Nat.le_refl _|exact Bz.size (by assumption)) _ _)) hb2;obtain⟨p20,p21,p22⟩:=hS.out _ hz2)))
    |fail
   all_goals
    go_wp2_with fail
    go_meet
    exact⟨rfl,(by repeat' (first|assumption|exact Bz.refl _|refine Bz.drew ?_|refine Bz.alloc ?_ _|refine Bz.set ?_ (by first|assumption|exact Nat.le_refl _|exact Bz.size (by assumption)) _ _))⟩
 case rest=>
 obtain⟨rfl,HZC⟩:=hcut
 have H6:=jq (H5.out.here HZC.out);have HO6:=jq (HO5.out.below HZC.out);clear s0 s1 s2 hS hE hff HZC H5 HO5 HCM HOF HPZ;have x5:=H6.out.c 2 5 rfl K5.out;go_wp2_with fail
 refine(HLX.out _ H6.out.bl).mono ?_;rintro e w7 ⟨A7,c7,rfl,ho7,hb7⟩;have H7:=jq (H6.out.here hb7);have HO7:=jq (HO6.out.below hb7);have HW7:=jq ho7;clear x5 ho7 hb7 H6 HO6 HLX;have n0:=H7.out.c 1 0 rfl rfl;have hll:=HQ3.out;have hlo:(Qb ls f.inst).length<=1002:=Nat.le_trans (List.length_filter_le _ _) HNL.out.1;have HLL:=jq hlo;clear hlo;generalize Qb ls f.inst=lo at*;have HPS:=jq (show PQ=PQ-JT (Qr ls (lots.take 0)) by rw[List.take_zero];exact(Int.sub_zero PQ).symm)
 have HPB:=jq (show PQ.natAbs<10^98 by
  rw[<-HN1.out];have h:=ZiA ls HQ1.out HQ3.out lots.length
  rwa [List.take_of_length_le (Nat.le_refl _)] at h)
 go_wp2_with fail
 go_loopw [7,12,13,14,15,62] (fun a _ _ _ _ i wr=>∃k:Nat,k<=lots.length/\i=.int .i64 k/\a=.string ⟨(Qa (PQ-JT (Qr ls (lots.take k)))).toArray⟩/\Hid (Below w7.1.size w7 wr)) (fun _ _ _ _ _ i _=>lots.length-(intOf i).toNat)
 case atStart=>exact⟨0,Nat.zero_le _,rfl,by rw[<-HPS.out],Below.refl _ _⟩
 case round=>
  clear n0 HPS;obtain⟨k,hk,rfl,rfl,HBR⟩:=hrel
  by_cases hlt:k<lots.length
  ·obtain⟨b,off,y,rfl,hb,hy,d0,d1,d2,d3,d4,d5,d6⟩:=((HO7.out.below HBR.out).sl Ql).lot7 hlt
   have HTC:=jq (ZjM ls hy);have HFM:=jq (ZbK ls y.id);have HYN:=jq (fun(h:y.id ∉ ls.map (·.id))=>HN3.out y (List.mem_filter.2 ⟨List.mem_of_getElem? hy,by simpa using h⟩));have HA1:=jq (fun W hp=>Yp (Qa (PQ-JT (Qr ls (lots.take k)))) y.q W hp (by have:=ZhT HPB.out (ZiA ls HQ1.out HQ3.out k);omega) (by have:=HQ1.out y (List.mem_of_getElem? hy);omega));rw[Qc] at HA1;have HB1:=jq (HBR.out.alloc HBR.out.size (.cells #[.string ⟨y.id.toArray⟩,.string ⟨y.inst.toArray⟩,.int .i64 y.acq,.int .i64 y.opn,.string ⟨y.q.toArray⟩,.string ⟨y.c.toArray⟩,.string ⟨y.u.toArray⟩] 50));have HY:=jq (show BlkB (wr.alloc (.cells #[.string ⟨y.id.toArray⟩,.string ⟨y.inst.toArray⟩,.int .i64 y.acq,.int .i64 y.opn,.string ⟨y.q.toArray⟩,.string ⟨y.c.toArray⟩,.string ⟨y.u.toArray⟩] 50)) wr.1.size #[.string ⟨y.id.toArray⟩,.string ⟨y.inst.toArray⟩,.int .i64 y.acq,.int .i64 y.opn,.string ⟨y.q.toArray⟩,.string ⟨y.c.toArray⟩,.string ⟨y.u.toArray⟩] 50 from heap_alloc_new wr _);have HFD:=jq (fun W (hb:Below w.1.size w W)=>Jr A ls.length c ls y.id W (HS.out.here hb) (by have:=HNL.out.1;omega));unfold QG S at HA1;unfold S at HFD;generalize max (Zax ls y.id) 0=mx at*;generalize decide (0<=Zax ls y.id)=fd at*;clear hy hb;go_upto_region 13 with (fail)
   clear d0 d1 d2 d3 d4 d5 d6;generalize wr.alloc _=W8 at*;generalize wr.1.size=bx at*;have y0:=HY.out.cell 0 rfl;go_wp2_with fail
   refine(HFD.out _ (H7.out.here HB1.out).bl).mono ?_;rintro e w9 ⟨rfl,hb9⟩;have HB9:=jq (HB1.out.trans (hb9.mono HB1.out.size));have HY9:=jq (HY.out.here hb9);clear y0 hb9 HB1 HY HFD
   cases fd with
   |true=>
    have HNE:=jq (show PQ-JT (Qr ls (lots.take (k+1)))=PQ-JT (Qr ls (lots.take k)) by rw[HTC.out,if_pos (by simpa using HFM.out),Int.add_zero]);go_wp2_with fail
    go_roundw
    case rel=>exact⟨k+1,by omega,by go_num,by rw[HNE.out],HB9.out⟩
    case measure=>simp[intOf];omega
   |false=>
    have hnin:y.id ∉ ls.map (·.id):=by simpa using HFM.out
    have HNE:=jq (show PQ-JT (Qr ls (lots.take (k+1)))=PQ-JT (Qr ls (lots.take k))-val y.q by rw[HTC.out,if_neg hnin];omega);obtain⟨hyi,z,hz,hz1,hz2⟩:=HYN.out hnin
    rw[<-HNE.out] at HA1;have y4:=HY9.out.cell 4 rfl;clear hnin HYN HFM HTC;go_wp2_with fail
    refine(HA1.out _ (H7.out.here HB9.out).po).mono ?_;rintro e wa ⟨rfl,hba⟩;have HBa:=jq (HB9.out.trans (hba.mono HB9.out.size));have HYa:=jq (HY9.out.here hba);clear y4 hba HB9 HY9;have y1:=HYa.out.cell 1 rfl;rw[hyi] at y1;have x6:=(H7.out.here HBa.out).c 2 6 rfl K6.out
    have HCF:=jq (ZdX 20 #[.pointer (some ⟨bx,0,none⟩)] (fun x=>x.acq==y.acq&&x.opn==y.opn) A7 lo.length c7 lo wa (enters_of Tryz.func20 (by kernel_rfl) rfl)
     (fun W' x _ hb'=>ZjO x y bx W' ((HYa.out.here hb').cell 2 rfl) ((HYa.out.here hb').cell 3 rfl)) ((HW7.out.below HBa.out).sl Ql) (by have:=HLL.out;omega))
    rw[show lo.any (fun x=>x.acq==y.acq&&x.opn==y.opn)=true from List.any_eq_true.2 ⟨z,hz,by simp[hz1,hz2]⟩] at HCF;have b1:(f.other.toArray !=f.other.toArray)=false:=by simp
    clear hyi hz hz1 hz2;go_wp2_with fail
    refine HCF.out.mono ?_;rintro e wb ⟨rfl,hbb⟩;go_wp2_with fail
    go_roundw
    case rel=>exact⟨k+1,by omega,by go_num,rfl,HBa.out.trans (hbb.mono HBa.out.size)⟩
    case measure=>simp[intOf];omega
  ·obtain rfl:k=lots.length:=by omega
   rw[List.take_of_length_le (Nat.le_refl _),HN1.out,Int.sub_self,show Qa 0=[] from rfl];have H8:=jq (H7.out.here HBR.out);go_wp2_with fail
   refine(HAW.out _ H8.out.pw).mono ?_;rintro e w9 ⟨rfl,hb9⟩;go_wp2_with fail
   first|go_ret|skip
   exact⟨rfl,(H8.out.here hb9).bl⟩
end
end Go.Proofs.YtmamnnaiogidaaaGreatDoor
