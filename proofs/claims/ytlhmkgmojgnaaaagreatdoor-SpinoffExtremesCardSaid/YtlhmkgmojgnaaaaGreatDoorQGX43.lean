/- Ss5. -/
import Derived.Test.YtlhmkgmojgnaaaaGreatDoorQGX14
import Derived.Test.YtlhmkgmojgnaaaaGreatDoorQGX42
set_option maxRecDepth 100000
set_option maxHeartbeats 8000000
namespace Go.Proofs.YtlhmkgmojgnaaaaGreatDoor
open Go.Lib renaming hid→jq
section
open Go.RowKit Go.Shelf
attribute [local go_sem] Oper.semAt_some
attribute [local go_sem ↓] Go.wp_at_zero Go.wp_at_succ Yq
structure Fct.Max (f:Fct):Prop where
 price:f.price.n.length<=maxLen/\f.price.d.length<=maxLen
 ratio:f.ratio.n.length<=maxLen/\f.ratio.d.length<=maxLen
 share:f.share.n.length<=maxLen/\f.share.d.length<=maxLen
 stamp:I64 f.stamp
 day:I64 f.day
 kind:I64 f.kind
 choice:I64 f.choice
theorem Fct.Gs.sz{f:Fct}(h:f.Gs)(hm:f.Max)(hp:∀p∈f.picks,p.Sz 30)(ho:∀o∈f.options,o.Sz 24)(g:Fr)(hg:g.Sz 13):(f.sh g).Sz 1000:=
 ⟨Nat.le_trans h.key (by omega),Nat.le_trans h.inst (by omega),Nat.le_trans h.other (by omega),Nat.le_trans h.cur (by omega),Nat.le_trans h.target (by omega),Nat.le_trans h.q (by omega),Nat.le_trans h.amount (by omega),Nat.le_trans h.fee (by omega),
  h.price.more (by omega),h.ratio.more (by omega),hg.more (by omega),fun p hx=>⟨Nat.le_trans (hp p hx).lot (by omega),Nat.le_trans (hp p hx).q (by omega)⟩,
  fun o hx=>⟨Nat.le_trans (ho o hx).other (by omega),(ho o hx).ratio.more (by omega),(ho o hx).price.more (by omega),(ho o hx).value.more (by omega)⟩,hm.stamp,hm.day,hm.kind,hm.choice⟩
theorem Sl.farC{α:Type}{enc:α->List Value}{k:Nat}{W:World}{B:Nat}{A:Option Addr}{n g:Nat}{xs:List α}(h:Sl enc k W B A n xs)(hA:∀a:Addr,A=some a->a.block≠g)(j:Nat)(u:Value):Sl enc k (W.setCell ⟨g,j,none⟩ u) B A n xs:=by
 refine⟨h.1,fun hn=> ?_⟩;obtain⟨b,off,e,hb,hc⟩:=h.2 hn
 refine⟨b,off,e,hb,fun i x hi q v hv=> ?_⟩;have:=hc i x hi q v hv
 have hh:=Below.heap_setCell W ⟨g,j,none⟩ u b (fun e2=>hA _ e e2);unfold World.cell? at this ⊢
 rw[hh];exact this
theorem Zdz{ls:List Lot}(hi:∀y∈ls,Lot.I y)(h:Zaw ls=false):ls.length<=1002/\(∀x∈ls,x.Sz 50000)/\∀x∈ls,x.c.length<=13:=by
 obtain⟨h1,h2⟩:=ZhL h hi
 refine⟨h1,fun x hx=> ?_,fun x hx=>(h2 x hx).2.2⟩;have hz:=(h2 x hx).1;exact⟨Nat.le_trans hz.id (by omega),Nat.le_trans hz.inst (by omega),Nat.le_trans hz.q (by omega),Nat.le_trans hz.c (by omega),Nat.le_trans hz.u (by omega),hz.a1,hz.a2,hz.o1,hz.o2⟩
theorem Zhs(A:Option Addr)(n c:Nat)(ls:List Lot)(f:Fct)(v:FaV)(w:World)(hp:Env w)(hs:YX w w.1.size A n ls)(hn:n<=maxLen)(hi:∀y∈ls,Lot.I y)(hm:FaM w w.1.size f v)(hpn:v.pn<=maxLen)(hon:v.on<=maxLen)(hx:f.Max):
 Calls Tryz.prog 3 #[.slice A n c,.agg (Qm f v)] w fun e w'=>e=.returned (.bool true)/\Below w.1.size w w':=by
 have hml:maxLen<=9223372036854775807:=by decide
 have H:=jq ((Kp.start hp).new w.1.size rfl (Qm f v) 30);have hl0:=QN (H.out.at_ 0 rfl) (QL f v)
 have HLG:=jq (fun W (hb:Below w.1.size w W)=>Zci A n c ls f v W (hp.here hb) (hs.here hb) (by omega) (hm.here hb) (by omega) (by omega) (by
  intro x hx';simp only[List.mem_cons,List.mem_nil_iff,or_false] at hx'
  rcases hx' with rfl|rfl|rfl
  ·exact hx.ratio
  ·exact hx.share
  ·exact hx.price))
 have HAW:=jq (fun W (hp:Env W)=>Ze9 W hp.pow);have HOF:=jq (fun W (hp:Env W)=>Zcf [49] W hp.pow (by simp));rw[show Qh ((val [49]:Int):Rat)=⟨[49],[]⟩ by rw[YJ];exact Zgq] at HOF
 have HCO:=jq (fun(hg:Zaw ls=false) (h1:f.Gs) (h2:v.pn<=66) (h3:v.on<=10) (hp':∀p∈f.picks,p.Sz 30) (ho:∀o∈f.options,o.Sz 24) (g:Fr) (hg':g.Sz 13) (W:World) (hb:Below w.1.size w W)=>
  ZfL A n c ls (f.sh g) v W (hp.here hb) (hs.here hb) (Zdz hi hg).2.1 (Zdz hi hg).2.2 (by have:=(Zdz hi hg).1;have:=hs.1;omega) (h1.sz hx hp' ho g hg') hg' ⟨(hm.here hb).pk,(hm.here hb).op,(hm.here hb).pc⟩ (by omega) (by omega))
 have HLO:=jq (fun(hg:Zaw ls=false) W (hb:Below w.1.size w W)=>ZbP A n c ls f.inst W (hs.here hb) (by have:=(Zdz hi hg).1;have:=hs.1;omega));have HGL:=jq (fun(hg:Zaw ls=false)=>(Zdz hi hg).1);have HSV:=jq (Zhr ls f);have HC0:=jq (Zel ls f);have HC1:=jq (Zem ls f);have HE0:=jq (show Xd ls (f.sh ⟨[],[]⟩)=false->XG ls (f.sh ⟨[],[]⟩)=([],1) from fun h=>by unfold XG;rw[if_pos h]);have HE1:=jq (show Xd ls (f.sh ⟨[49],[]⟩)=false->XG ls (f.sh ⟨[49],[]⟩)=([],1) from fun h=>by unfold XG;rw[if_pos h]);have HZ:=jq (QL f v);have HZ0:=jq (QL (f.sh ⟨[],[]⟩) v);have HZ1:=jq (QL (f.sh ⟨[49],[]⟩) v);have HS0:=jq (show((Qm f v).setIfInBounds 16 (.string ⟨#[]⟩)).setIfInBounds 17 (.string ⟨#[]⟩)=Qm (f.sh ⟨[],[]⟩) v from rfl);have HS1:=jq (show((Qm (f.sh ⟨[],[]⟩) v).setIfInBounds 16 (.string ⟨#[49]⟩)).setIfInBounds 17 (.string ⟨#[]⟩)=Qm (f.sh ⟨[49],[]⟩) v from rfl);have K5:=jq (show(Qm (f.sh ⟨[49],[]⟩) v)[5]?=some (.string ⟨f.inst.toArray⟩) from rfl);generalize Qm f v=fb at*;generalize hf0:Qm (f.sh ⟨[],[]⟩) v=f0 at*;generalize hf1:Qm (f.sh ⟨[49],[]⟩) v=f1 at*;have HF0:=jq hf0;have HF1:=jq hf1;clear hf0 hf1;clear hp hs hn hi hm hpn hon hx hml;unfold Qq QA S at*
 go_enter Tryz.func3,Tryz.ntmps3
 go_wp2_with fail
 refine(HLG.out _ H.out.bl).mono ?_;rintro e w1 ⟨⟨b,rfl,hP⟩,hb1⟩;have HP:=jq hP;have H1:=jq (H.out.here hb1);clear hP hb1 hl0 H HLG
 cases b with
 |true=>
  go_wp2_with fail
  refine(HAW.out _ H1.out.pw).mono ?_;rintro e w2 ⟨rfl,hb2⟩;go_wp2_with fail
  first|go_ret|skip
  exact⟨rfl,(H1.out.here hb2).bl⟩
 |false=>
 obtain⟨g1,g2,g3,g4,g5,g6⟩:=HP.out rfl
 have HCC:=jq (HCO.out g1 g2 g3 g4 g5 g6);have HLM:=jq (show(Qb ls f.inst).length<=1002 from Nat.le_trans (List.length_filter_le _ _) (HGL.out g1));have HLL:=jq (HLO.out g1);have HCX0:=jq (HCC.out ⟨[],[]⟩ ⟨by simp,by simp⟩);have HCX1:=jq (HCC.out ⟨[49],[]⟩ ⟨by simp,by simp⟩);clear g1 g2 g3 g4 g5 g6 HP HCO HLO HCC HGL;rw[HF0.out] at HCX0;rw[HF1.out] at HCX1
 cases hv:Xd ls (f.sh ⟨[],[]⟩) with
 |false=>
  have hv1:Xd ls (f.sh ⟨[49],[]⟩)=false:=by rw[<-HSV.out];exact hv
  rw[HE0.out hv] at HCX0;rw[HE1.out hv1] at HCX1;clear hv hv1 HE0 HE1 HC0 HC1 HSV HF0 HF1;unfold Vo at HCX0 HCX1;simp only[List.length_nil,List.map_nil] at HCX0 HCX1;have x16:=H1.out.f 0 16 rfl;have x17:=H1.out.f 0 17 rfl;go_upto_region 3 with (fail)
  obtain⟨u16,y16⟩:∃u,fb[16]?=some u:=⟨_,Array.getElem?_eq_getElem (by rw[HZ.out];omega)⟩
  obtain⟨u17,y17⟩:∃u,fb[17]?=some u:=⟨_,Array.getElem?_eq_getElem (by rw[HZ.out];omega)⟩
  have c16:=H1.out.c 0 16 rfl y16;have c17:=H1.out.c 0 17 rfl y17;have h2:=(H1.out.set 0 16 rfl (.string ⟨#[]⟩)).set 0 17 rfl (.string ⟨#[]⟩);simp only[List.set_cons_zero] at h2;rw[HS0.out] at h2;have H2:=jq h2;clear h2;go_upto_region 4 with (fail)
  generalize (w1.setCell ⟨w.1.size,16,none⟩ (.string ⟨#[]⟩)).setCell ⟨w.1.size,17,none⟩ (.string ⟨#[]⟩)=W2 at*;clear x16 x17 c16 c17 y16 y17 H1;have l2:=QN (H2.out.at_ 0 rfl) HZ0.out;go_wp2_with fail
  refine(HCX0.out _ H2.out.bl).mono ?_;rintro e w3 ⟨A1,c1,rfl,hst1,hf3,hb3⟩;have H3:=jq (H2.out.here hb3);have HT1:=jq hst1;have HN1:=jq (show ∀a:Addr,A1=some a->a.block≠w.1.size from fun a h e=>by have:=hf3 a h;have:=H2.out.lt 0 rfl;omega);clear l2 hst1 hf3 hb3 H2;go_wp2_with fail
  refine(HOF.out _ H3.out.pw).mono ?_;rintro e w4 ⟨rfl,hb4⟩;have H4:=jq (H3.out.here hb4);replace HT1:=jq (HT1.out.here hb4);clear hb4 H3;have x16:=H4.out.f 0 16 rfl;have x17:=H4.out.f 0 17 rfl;obtain⟨v16,y16⟩:∃u,f0[16]?=some u:=⟨_,Array.getElem?_eq_getElem (by rw[HZ0.out];omega)⟩
  obtain⟨v17,y17⟩:∃u,f0[17]?=some u:=⟨_,Array.getElem?_eq_getElem (by rw[HZ0.out];omega)⟩
  have c16:=H4.out.c 0 16 rfl y16;have c17:=H4.out.c 0 17 rfl y17;have h5:=(H4.out.set 0 16 rfl (.string ⟨#[49]⟩)).set 0 17 rfl (.string ⟨#[]⟩);simp only[List.set_cons_zero] at h5;rw[HS1.out] at h5;have H5:=jq h5;have HT5:=jq ((HT1.out.farC HN1.out 16 (.string ⟨#[49]⟩)).farC HN1.out 17 (.string ⟨#[]⟩));clear h5 HT1 HN1;go_upto_region 6 with (fail)
  have HSZ5:=jq (show w4.1.size<=((w4.setCell ⟨w.1.size,16,none⟩ (.string ⟨#[49]⟩)).setCell ⟨w.1.size,17,none⟩ (.string ⟨#[]⟩)).heap.size by simp);generalize (w4.setCell ⟨w.1.size,16,none⟩ (.string ⟨#[49]⟩)).setCell ⟨w.1.size,17,none⟩ (.string ⟨#[]⟩)=W5 at*;replace HT5:=jq (HT5.out.more HSZ5.out);clear x16 x17 c16 c17 y16 y17 H4;have l5:=QN (H5.out.at_ 0 rfl) HZ1.out;go_wp2_with fail
  refine(HCX1.out _ H5.out.bl).mono ?_;rintro e w6 ⟨A2,c2,rfl,hst2,_,hb6⟩;have H6:=jq (H5.out.here hb6);have HT6:=jq hst2;replace HT5:=jq (HT5.out.here hb6);clear l5 hst2 hb6 H5;have x5:=H6.out.c 0 5 rfl K5.out;go_wp2_with fail
  refine(HLL.out _ H6.out.bl).mono ?_;rintro e w7 ⟨A3,c3,rfl,ho3,hb7⟩;have H7:=jq (H6.out.here hb7);have HL7:=jq (ho3.sl Zav);replace HT5:=jq (HT5.out.here hb7);replace HT6:=jq (HT6.out.here hb7);clear x5 ho3 hb7 H6;go_wp2_with fail
  refine(HAW.out _ H7.out.pw).mono ?_;rintro e w8 ⟨rfl,hb8⟩;go_wp2_with fail
  first|go_ret|skip
  exact⟨rfl,(H7.out.here hb8).bl⟩
 |true=>
  have hv1:Xd ls (f.sh ⟨[49],[]⟩)=true:=by rw[<-HSV.out];exact hv
  rw[HC0.out hv] at HCX0;rw[(HC1.out hv1).1] at HCX1;have HTX:=jq (HC1.out hv1).2;clear hv hv1 HE0 HE1 HC0 HC1 HSV HF0 HF1;unfold Vo at HCX0 HCX1;simp only[List.length_map] at HCX0 HCX1;have x16:=H1.out.f 0 16 rfl;have x17:=H1.out.f 0 17 rfl;go_upto_region 3 with (fail)
  obtain⟨u16,y16⟩:∃u,fb[16]?=some u:=⟨_,Array.getElem?_eq_getElem (by rw[HZ.out];omega)⟩
  obtain⟨u17,y17⟩:∃u,fb[17]?=some u:=⟨_,Array.getElem?_eq_getElem (by rw[HZ.out];omega)⟩
  have c16:=H1.out.c 0 16 rfl y16;have c17:=H1.out.c 0 17 rfl y17;have h2:=(H1.out.set 0 16 rfl (.string ⟨#[]⟩)).set 0 17 rfl (.string ⟨#[]⟩);simp only[List.set_cons_zero] at h2;rw[HS0.out] at h2;have H2:=jq h2;clear h2;go_upto_region 4 with (fail)
  generalize (w1.setCell ⟨w.1.size,16,none⟩ (.string ⟨#[]⟩)).setCell ⟨w.1.size,17,none⟩ (.string ⟨#[]⟩)=W2 at*;clear x16 x17 c16 c17 y16 y17 H1;have l2:=QN (H2.out.at_ 0 rfl) HZ0.out;go_wp2_with fail
  refine(HCX0.out _ H2.out.bl).mono ?_;rintro e w3 ⟨A1,c1,rfl,hst1,hf3,hb3⟩;have H3:=jq (H2.out.here hb3);have HT1:=jq hst1;have HN1:=jq (show ∀a:Addr,A1=some a->a.block≠w.1.size from fun a h e=>by have:=hf3 a h;have:=H2.out.lt 0 rfl;omega);clear l2 hst1 hf3 hb3 H2;go_wp2_with fail
  refine(HOF.out _ H3.out.pw).mono ?_;rintro e w4 ⟨rfl,hb4⟩;have H4:=jq (H3.out.here hb4);replace HT1:=jq (HT1.out.here hb4);clear hb4 H3;have x16:=H4.out.f 0 16 rfl;have x17:=H4.out.f 0 17 rfl;obtain⟨v16,y16⟩:∃u,f0[16]?=some u:=⟨_,Array.getElem?_eq_getElem (by rw[HZ0.out];omega)⟩
  obtain⟨v17,y17⟩:∃u,f0[17]?=some u:=⟨_,Array.getElem?_eq_getElem (by rw[HZ0.out];omega)⟩
  have c16:=H4.out.c 0 16 rfl y16;have c17:=H4.out.c 0 17 rfl y17;have h5:=(H4.out.set 0 16 rfl (.string ⟨#[49]⟩)).set 0 17 rfl (.string ⟨#[]⟩);simp only[List.set_cons_zero] at h5;rw[HS1.out] at h5;have H5:=jq h5;have HT5:=jq ((HT1.out.farC HN1.out 16 (.string ⟨#[49]⟩)).farC HN1.out 17 (.string ⟨#[]⟩));clear h5 HT1 HN1;go_upto_region 6 with (fail)
  have HSZ5:=jq (show w4.1.size<=((w4.setCell ⟨w.1.size,16,none⟩ (.string ⟨#[49]⟩)).setCell ⟨w.1.size,17,none⟩ (.string ⟨#[]⟩)).heap.size by simp);generalize (w4.setCell ⟨w.1.size,16,none⟩ (.string ⟨#[49]⟩)).setCell ⟨w.1.size,17,none⟩ (.string ⟨#[]⟩)=W5 at*;replace HT5:=jq (HT5.out.more HSZ5.out);clear x16 x17 c16 c17 y16 y17 H4;have l5:=QN (H5.out.at_ 0 rfl) HZ1.out;go_wp2_with fail
  refine(HCX1.out _ H5.out.bl).mono ?_;rintro e w6 ⟨A2,c2,rfl,hst2,_,hb6⟩;have H6:=jq (H5.out.here hb6);have HT6:=jq hst2;replace HT5:=jq (HT5.out.here hb6);clear l5 hst2 hb6 H5;have x5:=H6.out.c 0 5 rfl K5.out;go_wp2_with fail
  refine(HLL.out _ H6.out.bl).mono ?_;rintro e w7 ⟨A3,c3,rfl,ho3,hb7⟩;have H7:=jq (H6.out.here hb7);have HL7:=jq (ho3.sl Zav);replace HT5:=jq (HT5.out.here hb7);replace HT6:=jq (HT6.out.here hb7);clear x5 ho3 hb7 H6;clear HCX0 HCX1 HLL HS0 HS1 HZ HZ0 HZ1 HOF HSZ5 K5;generalize Qb ls f.inst=lo at*;have hlm:=HLM.out;go_wp2_with fail
  go_loopw [10,11,64] (fun _ _ i wr=>∃(k:Nat),k<=lo.length/\i=.int .i64 k/\Hid (Below w7.1.size w7 wr)) (fun _ _ i _=>lo.length-(intOf i).toNat)
  case atStart=>exact⟨0,Nat.zero_le _,rfl,Below.refl _ _⟩
  case round=>
   obtain⟨k,hk,rfl,HBR⟩:=hrel
   by_cases hlt:k<lo.length
   ·obtain⟨b3,o3,y,rfl,hb3,hy,d0,d1,d2,d3,d4,d5,d6⟩:=(HL7.out.below HBR.out).lot7 hlt
    obtain⟨b1,o1,t1,rfl,hb1,ht1,e1⟩:=(HT5.out.below HBR.out).st hlt
    obtain⟨b2,o2,t2,rfl,hb2,ht2,e2⟩:=(HT6.out.below HBR.out).st hlt
    have q1:t1=[]:=by
     rw[List.getElem?_map,List.getElem?_map,hy] at ht1;simp only[Option.map_some,Option.some.injEq] at ht1;rw[<-ht1];rfl
    have q2:t2=y.c:=by
     rw[List.getElem?_map,List.getElem?_map,hy] at ht2;simp only[Option.map_some,Option.some.injEq] at ht2;rw[<-ht2];exact HTX.out y (List.mem_of_getElem? hy)
    subst q1 q2
    have HA:=jq (HBR.out.alloc HBR.out.size (.cells #[.string ⟨y.id.toArray⟩,.string ⟨y.inst.toArray⟩,.int .i64 y.acq,.int .i64 y.opn,.string ⟨y.q.toArray⟩,.string ⟨y.c.toArray⟩,.string ⟨y.u.toArray⟩] 40));have HBX:=jq (show BlkB (wr.alloc (.cells #[.string ⟨y.id.toArray⟩,.string ⟨y.inst.toArray⟩,.int .i64 y.acq,.int .i64 y.opn,.string ⟨y.q.toArray⟩,.string ⟨y.c.toArray⟩,.string ⟨y.u.toArray⟩] 40)) wr.1.size #[.string ⟨y.id.toArray⟩,.string ⟨y.inst.toArray⟩,.int .i64 y.acq,.int .i64 y.opn,.string ⟨y.q.toArray⟩,.string ⟨y.c.toArray⟩,.string ⟨y.u.toArray⟩] 40 from heap_alloc_new wr _);have E1:=(World.cell?_alloc_lt wr (.cells #[.string ⟨y.id.toArray⟩,.string ⟨y.inst.toArray⟩,.int .i64 y.acq,.int .i64 y.opn,.string ⟨y.q.toArray⟩,.string ⟨y.c.toArray⟩,.string ⟨y.u.toArray⟩] 40) ⟨b1,o1+k,none⟩ (by have:=HBR.out.size;show b1<_;omega)).trans e1;have E2:=(World.cell?_alloc_lt wr (.cells #[.string ⟨y.id.toArray⟩,.string ⟨y.inst.toArray⟩,.int .i64 y.acq,.int .i64 y.opn,.string ⟨y.q.toArray⟩,.string ⟨y.c.toArray⟩,.string ⟨y.u.toArray⟩] 40) ⟨b2,o2+k,none⟩ (by have:=HBR.out.size;show b2<_;omega)).trans e2;have HE1:=jq E1;have HE2:=jq E2;clear hy ht1 ht2 e1 e2 E1 E2;go_upto_region 17 with (fail)
    generalize wr.alloc _=W8 at*;generalize wr.1.size=bx at*;have e1:=HE1.out;have e2:=HE2.out;have x5:=HBX.out.cell 5 rfl;clear d0 d1 d2 d3 d4 d5 d6
    go_region
    go_wp2_with fail
    go_roundw
    case rel=>exact⟨k+1,by omega,by go_num,HA.out.drew⟩
    case measure=>simp[intOf];omega
   ·go_wp2_with fail
    refine(HAW.out _ (H7.out.here HBR.out).pw).mono ?_;rintro e w8 ⟨rfl,hb8⟩;go_wp2_with fail
    first|go_ret|skip
    exact⟨rfl,((H7.out.here HBR.out).here hb8).bl⟩
end
end Go.Proofs.YtlhmkgmojgnaaaaGreatDoor
