/- Vol, Vrd, Y12, Y13, Vdd. -/
import Derived.Test.YtmfjmngebldanaaGreatDoorQGVe40
import Derived.Test.YtmfjmngebldanaaGreatDoorQGVe39
import Derived.Test.YtmfjmngebldanaaGreatDoorQGVe41
set_option maxRecDepth 100000
set_option maxHeartbeats 4000000
namespace Go.Proofs.YtmfjmngebldanaaGreatDoor
open Go.Lib renaming hid→jq
open Go.RowKit Go.Shelf
section
attribute [local go_sem] Oper.semAt_some
attribute [local go_sem ↓] Ql Qz
theorem ZmH(A A':Option Addr)(n n' c c':Nat)(xs ys:List Fx)(k:Int)(w:World)(hp:Env w)(hcap:n<=c)(hnil:A=none->c=0)(hs:Sl QF 21 w w.1.size A n xs)(hn:n<=maxLen)(hi:∀x∈xs,FxI w x)
 (hs':Sl QF 21 w w.1.size A' n' ys) (hn':n'<=maxLen) (hi':∀x∈ys,FxI w x):
 Calls Tryz.prog 3 #[.slice A n c,.slice A' n' c',.int .i64 k] w fun e w'=>e=.returned (.bool true)/\Below w.1.size w w':=by
 have hml:maxLen<=9223372036854775807:=by decide
 have H:=jq (Kp.start hp);have HG1:=jq (YZ A n c xs w hp hs (Vd hi) (by omega));have HG2:=jq (fun W (hb:Below w.1.size w W)=>YZ A' n' c' ys W (hp.here hb) ((hs'.below hb).more hb.size) (fun x hx=>⟨((Vd hi' x hx).1).here hb,(Vd hi' x hx).2⟩) (by omega));have HF1:=jq (fun(hg:∀x∈xs,GrX x) W (hb:Below w.1.size w W)=>(XO hs hi hg).here hb);have HF2:=jq (fun(hg:∀x∈ys,GrX x) W (hb:Below w.1.size w W)=>(XO hs' hi' hg).here hb);have HOF:=jq (fun W (hb:Below w.1.size w W) (h:Fxs W W.1.size A n xs) (h1:n<=1002)=>Zfx A n c xs k W (hp.here hb) hcap hnil h (by omega));have HYF:=jq (fun W (hb:Below w.1.size w W) (h:Fxs W W.1.size A n xs) (h1:n<=1002)=>Zmz A n c xs k W (hp.here hb) h (by omega) hcap hnil);have HAE:=jq (show ∀W,Hid (Kp w [] W)->Calls Tryz.prog 7 #[] W fun e w'=>e=.returned (.bool true)/\Below W.1.size W w' from fun W h=>Zbf W h.out.pw);clear hp hs hs' hi hi' hcap hnil hn hn';go_enter Tryz.func3,Tryz.ntmps3
 go_wp2_with fail
 refine HG1.out.mono ?_;rintro e w1 ⟨⟨b,rfl,hP⟩,hb1⟩;have HP:=jq hP;have H1:=jq (H.out.here hb1);clear hP hb1 H HG1
 cases b with
 |true=>
  go_wp2_with fail
  refine(HAE.out _ H1).mono ?_;rintro e w2 ⟨rfl,hb2⟩;go_wp2_with fail
  first|go_ret|skip
  exact⟨rfl,(H1.out.here hb2).bl⟩
 |false=>
 go_wp2_with fail
 refine(HG2.out _ H1.out.bl).mono ?_;rintro e w2 ⟨⟨b,rfl,hP2⟩,hb2⟩;have HP2:=jq hP2;have H2:=jq (H1.out.here hb2);clear hP2 hb2 H1 HG2
 cases b with
 |true=>
  go_wp2_with fail
  refine(HAE.out _ H2).mono ?_;rintro e w3 ⟨rfl,hb3⟩;go_wp2_with fail
  first|go_ret|skip
  exact⟨rfl,(H2.out.here hb3).bl⟩
 |false=>
 have HN1:=jq (HP.out (by trivial));have HN2:=jq (HP2.out (by trivial));have HO:=jq (HOF.out _ H2.out.bl (HF1.out HN1.out.2 _ H2.out.bl) HN1.out.1);have HEQ:=jq (Znb (xs.map (·.1)) k)
 have HLN:=jq (show(ofV (xs.map (·.1)) k).1.length<=1002 by
  have h:=HN1.out.1;have h2:=(HF1.out HN1.out.2 _ H2.out.bl).len;unfold ofV
  repeat' split
  all_goals first|(simp;done)|(have h3:=ZlJ ((xs.map (·.1)).take k.toNat);rw[List.length_take,List.length_map] at h3;simp only;omega))
 have HY:=jq (fun W (hb:Below w.1.size w W)=>HYF.out W hb (HF1.out HN1.out.2 _ hb) HN1.out.1);rw[HEQ.out] at HY;have HS1:=jq (fun W (hb:Below w.1.size w W)=>HF1.out HN1.out.2 _ hb);have HS2:=jq (fun W (hb:Below w.1.size w W)=>HF2.out HN2.out.2 _ hb);have HNN:=jq (And.intro HN1.out.1 HN2.out.1);clear HOF HYF HF1 HF2 HP HP2 HN1 HN2 HEQ;generalize ofV (xs.map (·.1)) k=r at*;obtain⟨rl,re⟩:=r
 dsimp only at HO HY HLN
 unfold FsPost at HO;unfold YPost at HY;go_wp2_with fail
 refine HO.out.mono ?_;rintro e w3 ⟨A3,c3,us,rfl,hf3,hu3,_,hb3⟩;have H3:=jq (H2.out.here hb3);have HF3:=jq hf3;have HU3:=jq hu3;clear hf3 hu3 hb3 HO H2;go_wp2_with fail
 refine(HY.out _ H3.out.bl).mono ?_;rintro e w4 ⟨A4,c4,vs,rfl,ho4,hu4,hm4,hb4⟩;have H4:=jq (H3.out.here hb4);have HF4:=jq (show Fxs w4 w4.1.size A4 vs.length vs from⟨ho4.sl Qc,hm4⟩);have HF3b:=jq (HF3.out.here hb4);have HU4:=jq hu4;clear ho4 hu4 hm4 hb4 HY H3 HF3;have HLS:=jq (show us.length<=1002/\vs.length<=1002 from⟨by have h:=HLN.out;rw[<-HU3.out,List.length_map] at h;exact h,by have h:=HLN.out;rw[<-HU4.out,List.length_map] at h;exact h⟩);have HC1:=jq (Jz A3 A4 us.length vs.length c3 c4 us vs w4 H4.out.pw HF3b.out HF4.out (by have:=HLS.out;omega) (by have:=HLS.out;omega));rw[HU3.out,HU4.out,decide_eq_true rfl] at HC1;go_wp2_with fail
 refine HC1.out.mono ?_;rintro e w5 ⟨rfl,hb5⟩;have H5:=jq (H4.out.here hb5);have HC2:=jq (VG A A' n n' c c' xs ys w5 H5.out.pw (HS1.out _ H5.out.bl) (HS2.out _ H5.out.bl) (by have:=HNN.out;omega) (by have:=HNN.out;omega));have HC3:=jq (fun W (hb:Kp w [] W)=>Jz A A' n n' c c' xs ys W hb.pw (HS1.out _ hb.bl) (HS2.out _ hb.bl) (by have:=HNN.out;omega) (by have:=HNN.out;omega));generalize decide (xs.map (·.1)=ys.map (·.1))=bs at*;clear hb5 H4 HC1 HF3b HF4;go_wp2_with fail
 refine HC2.out.mono ?_;rintro e w6 ⟨rfl,hb6⟩;have H6:=jq (H5.out.here hb6);clear hb6 H5 HC2;go_wp2_with fail
 refine(HC3.out _ H6.out).mono ?_;rintro e w7 ⟨rfl,hb7⟩;have H7:=jq (H6.out.here hb7);clear hb7 H6 HC3;go_wp2_with fail
 refine(HAE.out _ H7).mono ?_;rintro e w8 ⟨rfl,hb8⟩;go_wp2_with fail
 first|go_ret|skip
 exact⟨rfl,(H7.out.here hb8).bl⟩
end
section
attribute [local go_sem] Oper.semAt_some
attribute [local go_sem ↓] Go.wp_at_zero Go.wp_at_succ Ql Qz
theorem ZgH(l:List Fct)(d:Int):(Yx l d).1.length<=l.length:=by
 unfold Yx
 repeat' split
 all_goals first|(simp;done)|exact List.length_filter_le _ _
theorem ZgI(l:List Fct)(f:Fct):(YT l f).1.length<=1000:=by
 unfold YT
 repeat' split
 all_goals first|(simp;done)|(simp only;omega)
theorem ZgJ(A:Option Addr)(n c:Nat)(xs:List Fx)(f:Fct)(v:FaV)(d:Int)(w:World)(hp:Env w)(hcap:n<=c)(hnil:A=none->c=0)(hs:Sl QF 21 w w.1.size A n xs)(hn:n<=maxLen)(hi:∀x∈xs,FxI w x)(hf:FxI w (f,v)):
 Calls Tryz.prog 5 #[.slice A n c,.agg (Qb f v),.int .i64 d] w fun e w'=>e=.returned (.bool true)/\Below w.1.size w w':=by
 have hml:maxLen<=9223372036854775807:=by decide
 have H:=jq ((Kp.start hp).new w.1.size rfl (Qb f v) 43);have HG1:=jq (fun W (hb:Below w.1.size w W)=>YZ A n c xs W (hp.here hb) ((hs.below hb).more hb.size) (fun x hx=>⟨((Vd hi x hx).1).here hb,(Vd hi x hx).2⟩) (by omega));have HG2:=jq (fun W (hb:Below w.1.size w W)=>Zav f v W (hp.here hb) (hf.1.here hb) (Nat.le_trans hf.2.1 hml) (Nat.le_trans hf.2.2.1 hml));have HFX:=jq (fun(hg:∀x∈xs,GrX x)=>XO hs hi hg);have HFM:=jq (fun(hg:GrX (f,v))=>hf.m hg);have HC:=jq (And.intro hcap hnil);have HPW:=jq hp;obtain⟨bf,hbf⟩:∃bf,w.1.size=bf:=⟨_,rfl⟩
 have HBF:=jq hbf;clear hbf;have HAE:=jq (show ∀W,Hid (Kp w [(bf,Qb f v,43)] W)->Calls Tryz.prog 7 #[] W fun e w'=>e=.returned (.bool true)/\Below W.1.size W w' from fun W h=>Zbf W h.out.pw);have hl0:=Qj (H.out.at_ 0 rfl) (Qg f v);clear hp hs hi hcap hnil hf hml hn;go_enter Tryz.func5,Tryz.ntmps5
 go_wp2_with fail
 rw[HBF.out] at H hl0 ⊢;generalize w.alloc (.cells (Qb f v) 43)=W0 at*;refine(HG1.out _ H.out.bl).mono ?_;rintro e w1 ⟨⟨b,rfl,hP⟩,hb1⟩;have HP:=jq hP;have H1:=jq (H.out.here hb1);clear hP hb1 H HG1 hl0
 cases b with
 |true=>
  go_wp2_with fail
  refine(HAE.out _ H1).mono ?_;rintro e w2 ⟨rfl,hb2⟩;go_wp2_with fail
  first|go_ret|skip
  exact⟨rfl,(H1.out.here hb2).bl⟩
 |false=>
 have hl1:=Qj (H1.out.at_ 0 rfl) (Qg f v);go_wp2_with fail
 refine(HG2.out _ H1.out.bl).mono ?_;rintro e w2 ⟨⟨b,rfl,hP2⟩,hb2⟩;have HP2:=jq hP2;have H2:=jq (H1.out.here hb2);clear hP2 hb2 H1 HG2 hl1
 cases b with
 |true=>
  go_wp2_with fail
  refine(HAE.out _ H2).mono ?_;rintro e w3 ⟨rfl,hb3⟩;go_wp2_with fail
  first|go_ret|skip
  exact⟨rfl,(H2.out.here hb3).bl⟩
 |false=>
 have HN1:=jq (HP.out (by trivial));have HXS:=jq (HFX.out HN1.out.2);have HFO:=jq (HFM.out (HP2.out (by trivial)));have hn1:n<=1002:=HN1.out.1;have HFI:=jq (fun W (hb:Below w.1.size w W)=>Zgv A n c xs f.key W (HXS.out.here hb) (by omega));have HYF:=jq (fun W (hb:Below w.1.size w W)=>Vz A n c xs f.key W (HXS.out.here hb) (by omega));have HUN:=jq (fun W (hb:Below w.1.size w W)=>Zfh A n c xs d W (HPW.out.here hb) (HXS.out.here hb) (by omega));have HYU:=jq (fun W (hb:Below w.1.size w W)=>Zgy A n c xs d W (HPW.out.here hb) (HXS.out.here hb) (by omega) HC.out.1 HC.out.2);have HAF:=jq (fun W (hb:Below w.1.size w W)=>ZfB A n c xs f v W (HPW.out.here hb) HC.out.2 HC.out.1 (HXS.out.here hb) (by omega) (HFO.out.here hb));have HYA:=jq (fun W (hb:Below w.1.size w W)=>ZgG A n c xs f v W (HPW.out.here hb) HC.out.1 HC.out.2 (HXS.out.here hb) (by omega) (HFO.out.here hb));have HCK:=jq (fun W (hb:Below w.1.size w W)=>XA A n c xs W (HPW.out.here hb) (HXS.out.here hb) (by omega));have HYC:=jq (fun W (hb:Below w.1.size w W)=>XQ A n c xs W (HPW.out.here hb) (HXS.out.here hb) (by omega) HC.out.1 HC.out.2)
 have HLU:=jq (show(Yx (xs.map (·.1)) d).1.length<=1002 by
  have h:=ZgH (xs.map (·.1)) d;rw[List.length_map,<-HXS.out.len] at h;omega)
 have HLA:=jq (ZgI (xs.map (·.1)) f);obtain⟨q,hq⟩:=ZdJ (xs.map (·.1)) f.key
 rw[hq] at HFI HYF;clear hq;generalize ((xs.map (·.1)).any fun g=>g.key==f.key)=z at*;generalize Yx (xs.map (·.1)) d=ru at*;generalize YT (xs.map (·.1)) f=ra at*;generalize Xh (xs.map (·.1))=ck at*;obtain⟨ul,ue⟩:=ru
 obtain⟨al,ae⟩:=ra
 dsimp only at HUN HYU HLU HAF HYA HLA
 unfold FsPost at HUN HAF;unfold YPost at HYU HYA;clear HP HP2 HFX HFM HN1 HXS HFO HPW HC;have d0:=H2.out.c 0 0 rfl (show(Qb f v)[0]?=some (.string ⟨f.key.toArray⟩) from rfl);go_wp2_with fail
 refine(HFI.out _ H2.out.bl).mono ?_;rintro e w3 ⟨rfl,hb3⟩;have H3:=jq (H2.out.here hb3);clear hb3 HFI H2 d0;have d0:=H3.out.c 0 0 rfl (show(Qb f v)[0]?=some (.string ⟨f.key.toArray⟩) from rfl);go_wp2_with fail
 refine(HYF.out _ H3.out.bl).mono ?_;rintro e w4 ⟨rfl,rfl⟩;clear HYF d0;go_wp2_with fail
 refine(HUN.out _ H3.out.bl).mono ?_;rintro e w4 ⟨A4,c4,us,rfl,hf4,hu4,_,hb4⟩;have H4:=jq (H3.out.here hb4);have HF4:=jq hf4;have HU4:=jq hu4;clear hf4 hu4 hb4 HUN H3;go_wp2_with fail
 refine(HYU.out _ H4.out.bl).mono ?_;rintro e w5 ⟨A5,c5,vs,rfl,ho5,hu5,hm5,hb5⟩;have H5:=jq (H4.out.here hb5);have HF5:=jq (show Fxs w5 w5.1.size A5 vs.length vs from⟨ho5.sl Qc,hm5⟩);have HF4b:=jq (HF4.out.here hb5);have HU5:=jq hu5;clear ho5 hu5 hm5 hb5 HYU H4 HF4
 have HSU:=jq (fun W (hb:Below w5.1.size w5 W) (he:Env W)=>Jz A4 A5 us.length vs.length c4 c5 us vs W he (HF4b.out.here hb) (HF5.out.here hb)
  (by have h:=HLU.out;rw[<-HU4.out,List.length_map] at h;omega) (by have h:=HLU.out;rw[<-HU5.out,List.length_map] at h;omega))
 rw[HU4.out,HU5.out,decide_eq_true rfl] at HSU;clear HF4b HF5;have hl5:=Qj (H5.out.at_ 0 rfl) (Qg f v);go_wp2_with fail
 refine(HAF.out _ H5.out.bl).mono ?_;rintro e w6 ⟨A6,c6,xa,rfl,hf6,hu6,_,hb6⟩;have H6:=jq (H5.out.here hb6);have HB6:=jq hb6;have HF6:=jq hf6;have HU6:=jq hu6;clear hf6 hu6 hb6 HAF H5 hl5;have hl6:=Qj (H6.out.at_ 0 rfl) (Qg f v);go_wp2_with fail
 refine(HYA.out _ H6.out.bl).mono ?_;rintro e w7 ⟨A7,c7,ya,rfl,ho7,hu7,hm7,hb7⟩;have H7:=jq (H6.out.here hb7);have HB7:=jq (HB6.out.trans (hb7.mono HB6.out.size));have HF7:=jq (show Fxs w7 w7.1.size A7 ya.length ya from⟨ho7.sl Qc,hm7⟩);have HF6b:=jq (HF6.out.here hb7);have HU7:=jq hu7;clear ho7 hu7 hm7 hb7 HYA H6 HF6 HB6 hl6
 have HSA:=jq (fun W (hb:Below w7.1.size w7 W) (he:Env W)=>Jz A6 A7 xa.length ya.length c6 c7 xa ya W he (HF6b.out.here hb) (HF7.out.here hb)
  (by have h:=HLA.out;rw[<-HU6.out,List.length_map] at h;omega) (by have h:=HLA.out;rw[<-HU7.out,List.length_map] at h;omega))
 rw[HU6.out,HU7.out,decide_eq_true rfl] at HSA;clear HF6b HF7;go_wp2_with fail
 refine(HCK.out _ H7.out.bl).mono ?_;rintro e w8 ⟨rfl,hb8⟩;have H8:=jq (H7.out.here hb8);have HB8:=jq hb8;clear hb8 HCK H7;go_wp2_with fail
 refine(HYC.out _ H8.out.bl).mono ?_;rintro e w9 ⟨rfl,hb9⟩;have H9:=jq (H8.out.here hb9);have HB9:=jq (HB8.out.trans (hb9.mono HB8.out.size));have HB95:=jq (HB7.out.trans (HB9.out.mono HB7.out.size));clear hb9 HYC H8 HB8;go_wp2_with fail
 refine(HSU.out _ HB95.out H9.out.pw).mono ?_;rintro e w10 ⟨rfl,hb10⟩;have H10:=jq (H9.out.here hb10);have HB10:=jq (HB9.out.trans (hb10.mono HB9.out.size));clear hb10 HSU H9 HB9 HB95;go_wp2_with fail
 refine(HSA.out _ HB10.out H10.out.pw).mono ?_;rintro e w11 ⟨rfl,hb11⟩;have H11:=jq (H10.out.here hb11);clear hb11 HSA H10 HB10;go_wp2_with fail
 refine(HAE.out _ H11).mono ?_;rintro e w12 ⟨rfl,hb12⟩;go_wp2_with fail
 first|go_ret|skip
 exact⟨rfl,(H11.out.here hb12).bl⟩
end
section
attribute [local go_sem] Oper.semAt_some
attribute [local go_sem ↓] Go.wp_at_zero Go.wp_at_succ Ql Qz YP
theorem Zlf{p:List UInt8->Bool}{l:List Fct}{k:Nat}{f:Fct}{out:List (List UInt8)}(h:l[k]?=some f):chR p (l.take k) out (l.drop k)=if(((l.take k).any fun g=>g.key==f.key)|| !p f.key)=true then chR p (l.take (k+1)) out (l.drop (k+1)) else chR p (l.take (k+1)) (Zct out f.key) (l.drop (k+1)):=by
 rw[Vv h];obtain⟨hk,rfl⟩:=List.getElem?_eq_some_iff.1 h
 rw[List.drop_eq_getElem_cons hk];rfl
theorem Zlg(v:List (List UInt8))(s:List UInt8):(Zct v s).length=v.length+1:=by
 unfold Zct;rw[List.length_append,List.length_cons,List.length_take,List.length_drop];omega
def slS(x v:Value):Sem Value:=Instr.sliceAt 30 x (some v) none none
theorem ZnC(x v:Value):Instr.sliceAt 30 x (some v) none none=slS x v:=rfl
def cutS(A:Option Addr)(c k:Nat):Option Addr:=if c=k then A else A.map (·.add (k*1))
theorem ZmI(w:World)(A:Option Addr)(n c k:Nat)(hk:k<=n):(slS (.slice A n c) (.int .i64 (k:Int))).run Tryz.prog w=.ok (.slice (cutS A c k) (n-k) (c-k)) w:=by
 have hel:Tryz.prog.elem 30=9:=by kernel_rfl
 have hu:Tryz.prog.underlying 30=some (.slice (Tryz.prog.elem 30)):=by rw[hel];exact Tryz.underlying30
 have hsz:((sizeOf (Tryz.prog.elem 30)).run Tryz.prog w)=.ok 1 w:=by
  obtain⟨i0,z0,hu0,hi0,hz0,hs0,_⟩:=Js
  rw[hel];simp[sizeOf,typeInfo,hi0,hs0]
 unfold slS;rw[run_sliceAt_slice (h:=hu),run_slice_l (ht:=hu) (h0:=by omega) (h1:=by omega),hsz];simp only[Result.andThen_ok,sliced,Int.toNat_natCast];rfl
theorem Sl.cutS{w:World}{B n c k:Nat}{A:Option Addr}{xs:List (List UInt8)}(h:Zjv w B A n xs)(hk:k<=n)(hc:n<=c):Zjv w B (cutS A c k) (n-k) (xs.drop k):=by
 have hl:=h.len;refine⟨by rw[List.length_drop,<-hl],fun h0=> ?_⟩;obtain⟨b,off,rfl,_⟩:=h.2 (by omega)
 unfold Go.Proofs.YtmfjmngebldanaaGreatDoor.cutS;rw[if_neg (by omega)];have h2:=(h.drop hk).2 h0;rw[Option.map_some,Addr.add_lit];exact h2
attribute [local go_sem ↓] ZnC
def ZgK(res:List (List UInt8))(w:World):Ending->World->Prop:=fun e w'=>∃A c,e=.returned (.slice A res.length c)/\Own S1 1 9 w' w.1.size (.slice A res.length c) res/\Below w.1.size w w'
theorem Zeo(A A':Option Addr)(n n' c c':Nat)(xs ys:List Fx)(w:World)(hp:Env w)(h1:Fxs w w.1.size A n xs)(h2:Fxs w w.1.size A' n' ys)(hn:n<=100000)(hn':n'<=100000):
 Calls Tryz.prog 39 #[.slice A n c,.slice A' n' c'] w (ZgK (chR (fun k=>decide (QA (xs.map (·.1)) k≠QA (ys.map (·.1)) k)) [] [] ((xs++ys).map (·.1))) w):=by
 have H1:=jq h1;have H2:=jq h2;have H:=jq (Kp.start hp);have HDI:=jq (fun(key:List UInt8) W (hW:Kp w [] W)=>ZdK A A' n n' c c' xs ys key W hW.pw (h1.here hW.bl) (h2.here hW.bl) (by omega) (by omega));generalize hpo:ZgK (chR (fun k=>decide (QA (xs.map (·.1)) k≠QA (ys.map (·.1)) k)) [] [] ((xs++ys).map (·.1))) w=post;have HPO:=jq hpo;have hb0:=Xc w;have HSA:=jq (h1.sl.here ((Below.refl w.1.size w).alloc (Nat.le_refl _) (.cells #[] 43)));have HOA:=jq (Own.lit (base:=w.1.size) (enc:=QF) (k:=21) w #[] 43 [] rfl Qc (Nat.le_refl _) (by simp));have HBA:=jq ((Below.refl w.1.size w).alloc (Nat.le_refl _) (.cells #[] 43));have HEN:=jq h1.len;have HEM:=jq h2.len;clear hpo hp h1 h2;go_enter Tryz.func39,Tryz.ntmps39
 go_upto_region 2 with (first
  |(at_builtin;refine Qs _ rfl (.tmp 12) (.tmp 13) _ rfl QO Qc QV (base:=w.1.size) (.slice (some ⟨w.1.size,0,none⟩) 0 0) [] rfl HOA.out _ _ n c xs rfl HSA.out (by simp;omega) HBA.out.size ?_
    intro A3 c3 w3 ho3 hg3 _;rw[List.length_nil,Nat.zero_add] at ho3 ⊢;rw[List.nil_append] at ho3;have HO3:=jq ho3;have HB3:=jq (HBA.out.trans (Qn hg3 HBA.out.size (Nat.le_refl _) (fun r e=>by simp[Value.ownBlock] at e;omega)))
    have HFR3:=jq (show ∀r,(Value.slice A3 n c3).ownBlock=some r->w.1.size<=r from fun r e=>by
     obtain⟨_,_,_,_,_,_,h5⟩:=HO3.out.form
     exact(h5 r e).2.1)
    have HSY:=jq (H2.out.sl.here HB3.out);clear ho3 hg3)
  |(at_builtin;refine Qs _ rfl (.tmp 14) (.tmp 15) _ rfl QO Qc QV (base:=w.1.size) (.slice A3 n c3) xs rfl HO3.out _ _ n' c' ys rfl HSY.out (by rw[<-HEN.out];omega) HB3.out.size ?_
    intro A5 c5 w5 ho5 hg5 _;rw[<-HEN.out] at ho5 ⊢;have HO5:=jq ho5;have HB5:=jq (HB3.out.trans (Qn hg5 HB3.out.size (Nat.le_refl _) HFR3.out));clear ho5 hg5))
 have H5:=jq (H.out.here HB5.out)
 have HZ5:=jq (show Fxs w5 w5.1.size A5 (n+n') (xs++ys) from⟨HO5.out.sl Qc,fun x hx=>by
  rcases List.mem_append.1 hx with hx|hx
  ·exact(H1.out.all x hx).here HB5.out
  ·exact(H2.out.all x hx).here HB5.out⟩)
 have HC5:=jq HO5.out.room.1;rw[List.length_append,<-HEN.out,<-HEM.out] at HC5;have HM:=jq (show n+n'<=200000 by omega);clear HO5 HB5 HO3 HB3 HFR3 HSY HOA HBA HSA H1 H2 H hb0 hn hn' HEN HEM;generalize n+n'=m at*;generalize xs++ys=zs at*;generalize hpp:(fun k=>decide (QA (xs.map (·.1)) k≠QA (ys.map (·.1)) k))=p at*;have HDP:=jq (show ∀(key:List UInt8) W (hW:Kp w [] W),Calls Tryz.prog 40 #[.slice A n c,.slice A' n' c',.string ⟨key.toArray⟩] W fun e w'=>e=.returned (.bool (p key))/\Below W.1.size W w' from hpp▸HDI.out);clear HDI hpp;have HO0:=jq (Own.lit (base:=w.1.size) (enc:=S1) (k:=1) w5 #[] 9 [] rfl XP H5.out.bl.size (by simp));have H6:=jq (H5.out.alloc (.cells #[] 9));have HB6:=jq ((Below.refl w5.1.size w5).alloc (Nat.le_refl _) (.cells #[] 9));go_upto_region 3 with (fail)
 generalize w5.alloc _=W6 at*;go_wp2_with fail
 go_loopw [6,7,8,9,10,11] (fun o i _ _ _ _ wr=>∃(k:Nat) (Av:Option Addr) (cv:Nat) (vs:List (List UInt8)),k<=m/\o=.slice Av vs.length cv/\i=.int .i64 k/\Hid (Kp w [] wr)/\Hid (Below w5.1.size w5 wr)/\Hid (Own S1 1 9 wr w.1.size (.slice Av vs.length cv) vs)/\Hid (chR p ((zs.map (·.1)).take k) vs ((zs.map (·.1)).drop k)=chR p [] [] (zs.map (·.1)))/\Hid (vs.length<=k)) (fun _ i _ _ _ _ _=>m-(intOf i).toNat)
 case atStart=>exact⟨0,some ⟨w5.1.size,0,none⟩,0,[],Nat.zero_le _,rfl,rfl,H6,HB6,HO0,rfl,Nat.zero_le _⟩
 case round=>
  clear H5 H6 HB6 HO0;obtain⟨k,Av,cv,vs,hk,rfl,rfl,H,HB,HO,HK,HVL⟩:=hrel
  have hm2:=HM.out
  by_cases hlt:k<m
  ·obtain⟨b,off,f,u,rfl,hb,hx,hm,hr⟩:=(HZ5.out.here HB.out).at_ hlt
   have HST:=jq (Zlf (p:=p) (out:=vs) (show(zs.map (·.1))[k]?=some f by rw[List.getElem?_map,hx];rfl));have d0:wr.cell? ⟨b,off+k*21,none⟩=some (.string ⟨f.key.toArray⟩):=by have h:=hr 0 _ rfl;rw[Nat.add_zero] at h;exact h
   have HFI:=jq (Vz (some ⟨b,off,none⟩) k c5 (zs.take k) f.key wr ((HZ5.out.here HB.out).upto (by omega)) (by have:=HM.out;omega));rw[List.map_take] at HFI;obtain⟨q,hq⟩:=ZdJ ((zs.map (·.1)).take k) f.key
   rw[hq] at HFI;have hkc:k<=c5:=by have:=HC5.out;omega
   have HKC:=jq hkc;clear hx hr hb hm hq;generalize (((zs.map (·.1)).take k).any fun g=>g.key==f.key)=seen at*;generalize f.key=key at*;go_wp2_with fail
   refine HFI.out.mono ?_;rintro e w1 ⟨rfl,rfl⟩;clear HFI d0
   cases seen with
   |true=>
    have HKN:=jq (show chR p ((zs.map (·.1)).take (k+1)) vs ((zs.map (·.1)).drop (k+1))=chR p [] [] (zs.map (·.1)) by rw[<-HK.out,HST.out,if_pos (by rfl)]);have HVN:=jq (show vs.length<=k+1 by have:=HVL.out;omega);clear HK HST;go_wp2_with fail
    go_roundw
    case rel=>exact⟨k+1,Av,cv,vs,by omega,rfl,by go_num,H,HB,HO,HKN,HVN⟩
    case measure=>simp[intOf];omega
   |false=>
   have HDQ:=jq (HDP.out key _ H.out);go_wp2_with fail
   refine HDQ.out.mono ?_;rintro e w2 ⟨rfl,hb2⟩;have H2:=jq (H.out.here hb2);have HB2:=jq (HB.out.trans (hb2.mono HB.out.size));have HO2:=jq (HO.out.below hb2);clear H HB HO HDQ hb2
   cases hpk:p key with
   |false=>
    have HKN:=jq (show chR p ((zs.map (·.1)).take (k+1)) vs ((zs.map (·.1)).drop (k+1))=chR p [] [] (zs.map (·.1)) by rw[<-HK.out,HST.out,hpk,if_pos (by rfl)]);have HVN:=jq (show vs.length<=k+1 by have:=HVL.out;omega);clear HK HST hpk;go_wp2_with fail
    go_roundw
    case rel=>exact⟨k+1,Av,cv,vs,by omega,rfl,by go_num,H2,HB2,HO2,HKN,HVN⟩
    case measure=>simp[intOf];omega
   |true=>
   have HKN:=jq (show chR p ((zs.map (·.1)).take (k+1)) (Zct vs key) ((zs.map (·.1)).drop (k+1))=chR p [] [] (zs.map (·.1)) by rw[<-HK.out,HST.out,hpk,if_neg (by decide)]);clear HK HST hpk;have hvl:vs.length<=200000:=by have:=HVL.out;omega
   go_wp2_with fail
   go_loopw [11] (fun q wq=>∃j:Nat,j<=vs.length/\q=.int .i64 j/\wq=w2/\Hid (∀x∈vs.take j,Op.bytesLess x key=true)) (fun q _=>vs.length-(intOf q).toNat)
   case atStart=>exact⟨0,Nat.zero_le _,rfl,rfl,(show ∀x∈vs.take 0,Op.bytesLess x key=true from fun x hx=>by simp at hx)⟩
   case round=>
    obtain⟨j,hj,rfl,rfl,HL⟩:=hrel
    go_upto_region 10 with (fail)
    go_cut [56] (fun bb wc=>wr=wc/\∃z:Bool,bb=.bool z/\Hid ((z=true/\j<vs.length/\∀x∈vs.take (j+1),Op.bytesLess x key=true)\/(z=false/\Zd8 vs key=j)))
    case first=>
     by_cases hjl:j<vs.length
     ·obtain⟨b2,off2,x,hAv,hbb,hx2,e0⟩:=(HO2.out.sl XP).st hjl
      subst hAv;have HX2:=jq hx2;have hb3:=XG x;have hb4:=XG key;clear hx2 hbb
      cases hl:Op.bytesLess x key with
      |true=>
       have HN:=jq (show ∀y∈vs.take (j+1),Op.bytesLess y key=true from fun y hy=>by
        rw[List.take_add_one,HX2.out] at hy
        rcases List.mem_append.1 hy with hy|hy
        ·exact HL.out y hy
        ·have hy2:y=x:=by simpa using hy
         rw[hy2];exact hl)
       have hb5:Op.bytesLess (⟨x.toArray⟩:ByteArray).toList (⟨key.toArray⟩:ByteArray).toList=true:=by rw[hb3,hb4];exact hl
       clear hb3 hb4;go_wp2_with fail
       go_meet
       exact⟨rfl,true,rfl,.inl ⟨rfl,hjl,HN.out⟩⟩
      |false=>
       have HN:=jq (show Zd8 vs key=j from Zd9 hj HL.out fun y hy=>by rw[HX2.out] at hy;obtain rfl:=Option.some.inj hy;exact hl);have hb5:Op.bytesLess (⟨x.toArray⟩:ByteArray).toList (⟨key.toArray⟩:ByteArray).toList=false:=by rw[hb3,hb4];exact hl
       clear hb3 hb4;go_wp2_with fail
       go_meet
       exact⟨rfl,false,rfl,.inr ⟨rfl,HN.out⟩⟩
     ·have HN:=jq (show Zd8 vs key=j from Zd9 hj HL.out fun y hy=>absurd (List.getElem?_eq_some_iff.1 hy).1 hjl);go_wp2_with fail
      go_meet
      exact⟨rfl,false,rfl,.inr ⟨rfl,HN.out⟩⟩
    case rest=>
    obtain⟨rfl,z,rfl,HZ⟩:=hcut
    cases z with
    |true=>
     have HZ2:=jq (HZ.out.resolve_right (fun h=>by cases h.1));have hjl:j<vs.length:=HZ2.out.2.1;go_wp2_with fail
     go_roundw
     case rel=>exact⟨j+1,by omega,by go_num,by trivial,HZ2.out.2.2⟩
     case measure=>simp[intOf];omega
    |false=>
     have HPL:=jq (HZ.out.resolve_left (fun h=>by cases h.1)).2;clear HZ HL;have HPK:=jq (show Zct vs key=vs.take j++([key]++vs.drop j) by unfold Zct;rw[HPL.out];rfl);obtain⟨hvc,hvn,_⟩:=HO2.out.room
     have HNJ:=jq (show Av=none->j=0 from fun e=>by have:=hvn e;omega);have HSU:=jq ((HO2.out.sl XP).take (m:=j) hj);have HSD:=jq (Sl.cutS (c:=cv) (HO2.out.sl XP) hj hvc);have hsl:=fun W=>ZmI W Av vs.length cv j hj
     have hjc:j<=cv:=by omega
     clear hvn HPL;go_upto_region 12 with (fail)
     go_region_law (first
      |(refine ZiP _ rfl (.tmp 64) (.tmp 67) _ rfl Js XP ZbR (base:=wr.1.size) (.slice (some ⟨wr.1.size,0,none⟩) 1 1) [key] rfl (Own.drew (Own.lit wr #[.string ⟨key.toArray⟩] 9 [key] rfl XP (Nat.le_refl _) (by simp[maxLen]))) _ _ _ _ (vs.drop j) rfl (HSD.out.alloc (Nat.le_refl _) _).drew (by simp;omega) (by simp) ?_
        intro A1 c1 w1 ho1 hg1 _)
      |(refine ZhB _ rfl (.tmp 62) (.tmp 68) _ rfl Js XP ZbR wr.1.size _ _ _ (vs.take j) rfl ((HSU.out.alloc (Nat.le_refl _) _).drew.grown hg1 (by simp) (by simp[Value.ownBlock])) HNJ.out _ _ _ _ ([key]++vs.drop j) rfl (ho1.sl XP) (Nat.le_refl _) (by omega) (by omega) ?_
        intro A2 c2 w2 ho2 hg2))
     have hb1:Below wr.1.size wr w1:=QK (((Below.refl _ _).alloc (Nat.le_refl _) _).drew) hg1 (by simp) (by simp[Value.ownBlock]);have hb2:Below wr.1.size wr w2:=ZaN hb1 hg2 hb1.size;have H7:=jq (H2.out.here hb2);have HB7:=jq (HB2.out.trans (hb2.mono HB2.out.size));have hl2:=ho2.facts.1;have HO7:=jq (ho2.base_ (base':=w.1.size) (Nat.le_trans H2.out.bl.size hb1.size));rw[<-HPK.out] at hl2 HO7;have HVN:=jq (show(Zct vs key).length<=k+1 by rw[Zlg];have:=HVL.out;omega);go_wp2_with fail
     go_roundw
     case rel=>exact⟨k+1,A2,c2,Zct vs key,by omega,by rw[<-hl2],by go_num,H7,HB7,(by rw[<-hl2];exact HO7),HKN,HVN⟩
     case measure=>simp[intOf];omega
  ·obtain rfl:k=m:=by omega
   have HKE:=jq (show vs=chR p [] [] (zs.map (·.1)) by
    have h:=HK.out;rw[List.drop_eq_nil_of_le (by rw[List.length_map,<-HZ5.out.len];exact Nat.le_refl _)] at h;exact h)
   go_wp2_with fail
   first|go_ret|skip
   rw[<-HPO.out,<-HKE.out];exact⟨Av,cv,rfl,HO.out,H.out.bl⟩
theorem KsPost.none_{w w1:World}{e2:Int}(hb:Below w.1.size w w1):KsPost [] e2 w (.returned (.tuple #[.slice (some ⟨w1.1.size,0,none⟩) 0 0,.int .i64 e2])) (w1.alloc (.cells #[] 9)):=
 ⟨_,0,rfl,Own.lit (base:=w.1.size) (enc:=S1) (k:=1) w1 #[] 9 [] rfl XP hb.size (by simp),hb.alloc hb.size _⟩
theorem Zlh(A A':Option Addr)(n c n' c':Nat)(xs ys:List Fx)(w:World)(hp:Env w)(hx:Fxs w w.1.size A n xs)(hy:Fxs w w.1.size A' n' ys)(hn:n<=100000)(hn':n'<=100000)(hc:n<=c/\(A=none->c=0))(hc':n'<=c'/\(A'=none->c'=0)):
 Calls Tryz.prog 13 #[.slice A n c,.slice A' n' c'] w (KsPost (ZaZ (xs.map (·.1)) (ys.map (·.1))).1 (ZaZ (xs.map (·.1)) (ys.map (·.1))).2 w):=by
 have HCA:=jq (fun W (hb:Below w.1.size w W)=>XQ A n c xs W (hp.here hb) (hx.here hb) (by omega) hc.1 hc.2);have HCB:=jq (fun W (hb:Below w.1.size w W)=>XQ A' n' c' ys W (hp.here hb) (hy.here hb) (by omega) hc'.1 hc'.2);have HCD:=jq (fun W (hb:Below w.1.size w W)=>Zeo A A' n n' c c' xs ys W (hp.here hb) (hx.here hb) (hy.here hb) hn hn');have hch:ZaZ (xs.map (·.1)) (ys.map (·.1))=if Xh (xs.map (·.1))≠0\/Xh (ys.map (·.1))≠0 then([],1) else(Jc ((QW (xs.map (·.1)) (ys.map (·.1))++QW (ys.map (·.1)) (xs.map (·.1))).map (·.key)),0):=rfl
 have HEQ:=jq (show Xh (xs.map (·.1))=0->Xh (ys.map (·.1))=0->chR (fun k=>decide (QA (xs.map (·.1)) k≠QA (ys.map (·.1)) k)) [] [] ((xs++ys).map (·.1))=Jc ((QW (xs.map (·.1)) (ys.map (·.1))++QW (ys.map (·.1)) (xs.map (·.1))).map (·.key)) from
  fun h1 h2=>by rw[List.map_append];exact Znc ((Vu _).1 h1).dk ((Vu _).1 h2).dk)
 clear hx hy hp;generalize chR (fun k=>decide (QA (xs.map (·.1)) k≠QA (ys.map (·.1)) k)) [] [] ((xs++ys).map (·.1))=rch at*;generalize Jc ((QW (xs.map (·.1)) (ys.map (·.1))++QW (ys.map (·.1)) (xs.map (·.1))).map (·.key))=rse at*;generalize Xh (xs.map (·.1))=za at*;generalize Xh (ys.map (·.1))=zb at*;generalize ZaZ (xs.map (·.1)) (ys.map (·.1))=res at*;generalize hpo:KsPost res.1 res.2 w=post at*;have HPO:=jq hpo;clear hpo
 by_cases h0:za=0
 case neg=>
  rw[if_pos (.inl h0)] at hch;have HRS:=jq hch;have hz:(za !=0)=true:=by simp[h0]
  clear hch h0;go_enter Tryz.func13,Tryz.ntmps13
  go_wp2_with fail
  refine(HCA.out w (Below.refl _ _)).mono ?_;rintro e w1 ⟨rfl,hb1⟩;go_wp2_with fail
  first|go_ret2|skip
  rw[<-HPO.out,HRS.out];exact KsPost.none_ hb1
 subst h0
 by_cases h1:zb=0
 case neg=>
  rw[if_pos (.inr h1)] at hch;have HRS:=jq hch;have hz:(zb !=0)=true:=by simp[h1]
  clear hch h1;go_enter Tryz.func13,Tryz.ntmps13
  go_wp2_with fail
  refine(HCA.out w (Below.refl _ _)).mono ?_;rintro e w1 ⟨rfl,hb1⟩;go_wp2_with fail
  refine(HCB.out _ hb1).mono ?_;rintro e w2 ⟨rfl,hb2⟩;go_wp2_with fail
  first|go_ret2|skip
  rw[<-HPO.out,HRS.out];exact KsPost.none_ (hb1.trans (hb2.mono hb1.size))
 subst h1;rw[if_neg (by simp),<-HEQ.out rfl rfl] at hch;have HRS:=jq hch;unfold ZgK at HCD;clear hch HEQ;go_enter Tryz.func13,Tryz.ntmps13
 go_wp2_with fail
 refine(HCA.out w (Below.refl _ _)).mono ?_;rintro e w1 ⟨rfl,hb1⟩;go_wp2_with fail
 refine(HCB.out _ hb1).mono ?_;rintro e w2 ⟨rfl,hb2⟩;have HB2:=jq (hb1.trans (hb2.mono hb1.size));clear hb1 hb2;go_wp2_with fail
 refine(HCD.out _ HB2.out).mono ?_;rintro e w3 ⟨A3,c3,rfl,ho3,hb3⟩;have HO3:=jq ho3;have HB3:=jq hb3;clear ho3 hb3;go_wp2_with fail
 first|go_ret2|skip
 rw[<-HPO.out,HRS.out];exact⟨A3,c3,rfl,HO3.out.base_ HB2.out.size,HB2.out.trans (HB3.out.mono HB2.out.size)⟩
end
section
attribute [local go_sem] Oper.semAt_some
attribute [local go_sem ↓] Go.wp_at_zero Go.wp_at_succ Ql Qz YP
def Zaj(q:List UInt8->Bool)(l:List Fct):Int×Bool:=(l.filter fun f=>q f.key).foldl XY (0,false)
theorem Zli{q:List UInt8->Bool}{l:List Fct}{k:Nat}{f:Fct}(h:l[k]?=some f):Zaj q (l.take (k+1))=if q f.key=true then XY (Zaj q (l.take k)) f else Zaj q (l.take k):=by
 unfold Zaj;rw[Vv h,List.filter_append]
 by_cases hq:q f.key=true
 ·rw[if_pos hq,show[f].filter (fun f=>q f.key)=[f] by simp[hq],List.foldl_append];rfl
 ·rw[if_neg hq,show[f].filter (fun f=>q f.key)=[] by simp[hq],List.append_nil]
theorem ZmJ{a b:List Fct}(ha:DK a)(hb:DK b):Zaj (fun k=>decide (QA a k≠QA b k)) (a++b)=(QW a b++QW b a).foldl XY (0,false):=by
 unfold Zaj;rw[<-Zbr ha hb]
theorem ZgL(A A':Option Addr)(n c n' c':Nat)(xs ys:List Fx)(w:World)(hp:Env w)(hx:Fxs w w.1.size A n xs)(hy:Fxs w w.1.size A' n' ys)(hn:n<=100000)(hn':n'<=100000)(hc:n<=c/\(A=none->c=0))(hc':n'<=c'/\(A'=none->c'=0)):
 Calls Tryz.prog 15 #[.slice A n c,.slice A' n' c'] w (Jr (Jd (xs.map (·.1)) (ys.map (·.1))) w):=by
 have H:=jq (Kp.start hp);have HCA:=jq (fun W (hb:Below w.1.size w W)=>XQ A n c xs W (hp.here hb) (hx.here hb) (by omega) hc.1 hc.2);have HCB:=jq (fun W (hb:Below w.1.size w W)=>XQ A' n' c' ys W (hp.here hb) (hy.here hb) (by omega) hc'.1 hc'.2);have HDI:=jq (fun(key:List UInt8) W (hW:Below w.1.size w W)=>ZdK A A' n n' c c' xs ys key W (hp.here hW) (hx.here hW) (hy.here hW) (by omega) (by omega));have hch:Jd (xs.map (·.1)) (ys.map (·.1))=if Xh (xs.map (·.1))≠0\/Xh (ys.map (·.1))≠0 then(0,false,1) else(((QW (xs.map (·.1)) (ys.map (·.1))++QW (ys.map (·.1)) (xs.map (·.1))).foldl XY (0,false)).1,((QW (xs.map (·.1)) (ys.map (·.1))++QW (ys.map (·.1)) (xs.map (·.1))).foldl XY (0,false)).2,0):=rfl
 have HEQ:=jq (show Xh (xs.map (·.1))=0->Xh (ys.map (·.1))=0->Zaj (fun k=>decide (QA (xs.map (·.1)) k≠QA (ys.map (·.1)) k)) ((xs++ys).map (·.1))=(QW (xs.map (·.1)) (ys.map (·.1))++QW (ys.map (·.1)) (xs.map (·.1))).foldl XY (0,false) from
  fun h1 h2=>by rw[List.map_append];exact ZmJ ((Vu _).1 h1).dk ((Vu _).1 h2).dk)
 generalize (QW (xs.map (·.1)) (ys.map (·.1))++QW (ys.map (·.1)) (xs.map (·.1))).foldl XY (0,false)=rse at*;generalize Xh (xs.map (·.1))=za at*;generalize Xh (ys.map (·.1))=zb at*;generalize Jd (xs.map (·.1)) (ys.map (·.1))=res at*;generalize hpo:Jr res w=post at*;have HPO:=jq hpo;have H1:=jq hx;have H2:=jq hy;have HEN:=jq hx.len;have HEM:=jq hy.len;clear hpo hx hy hp hc hc'
 by_cases h0:za=0
 case neg=>
  rw[if_pos (.inl h0)] at hch;have HRS:=jq hch;have hz:(za !=0)=true:=by simp[h0]
  clear hch h0;go_enter Tryz.func15,Tryz.ntmps15
  go_wp2_with fail
  refine(HCA.out w (Below.refl _ _)).mono ?_;rintro e w1 ⟨rfl,hb1⟩;go_wp2_with fail
  first|go_ret3|skip
  rw[<-HPO.out,HRS.out];exact⟨rfl,hb1⟩
 subst h0
 by_cases h1:zb=0
 case neg=>
  rw[if_pos (.inr h1)] at hch;have HRS:=jq hch;have hz:(zb !=0)=true:=by simp[h1]
  clear hch h1;go_enter Tryz.func15,Tryz.ntmps15
  go_wp2_with fail
  refine(HCA.out w (Below.refl _ _)).mono ?_;rintro e w1 ⟨rfl,hb1⟩;go_wp2_with fail
  refine(HCB.out _ hb1).mono ?_;rintro e w2 ⟨rfl,hb2⟩;go_wp2_with fail
  first|go_ret3|skip
  rw[<-HPO.out,HRS.out];exact⟨rfl,hb1.trans (hb2.mono hb1.size)⟩
 subst h1;rw[if_neg (by simp),<-HEQ.out rfl rfl] at hch;have HRS:=jq hch;clear hch HEQ;go_enter Tryz.func15,Tryz.ntmps15
 go_wp2_with fail
 refine(HCA.out w (Below.refl _ _)).mono ?_;rintro e w1 ⟨rfl,hb1⟩;go_wp2_with fail
 refine(HCB.out _ hb1).mono ?_;rintro e w2 ⟨rfl,hb2⟩;have HB2:=jq (hb1.trans (hb2.mono hb1.size));clear hb1 hb2 HCA HCB;have hb0:=Xc w2;have HSA:=jq ((H1.out.here HB2.out).sl.here ((Below.refl w2.1.size w2).alloc (Nat.le_refl _) (.cells #[] 43)));have HOA:=jq (Own.lit (base:=w2.1.size) (enc:=QF) (k:=21) w2 #[] 43 [] rfl Qc (Nat.le_refl _) (by simp));have HBA:=jq ((Below.refl w2.1.size w2).alloc (Nat.le_refl _) (.cells #[] 43))
 go_upto_region 5 with (first
  |(at_builtin;refine Qs _ rfl (.tmp 19) (.tmp 20) _ rfl QO Qc QV (base:=w2.1.size) (.slice (some ⟨w2.1.size,0,none⟩) 0 0) [] rfl HOA.out _ _ n c xs rfl HSA.out (by simp;omega) HBA.out.size ?_
    intro A3 c3 w3 ho3 hg3 _;rw[List.length_nil,Nat.zero_add] at ho3 ⊢;rw[List.nil_append] at ho3;have HO3:=jq ho3;have HB3:=jq (HBA.out.trans (Qn hg3 HBA.out.size (Nat.le_refl _) (fun r e=>by simp[Value.ownBlock] at e;omega)))
    have HFR3:=jq (show ∀r,(Value.slice A3 n c3).ownBlock=some r->w2.1.size<=r from fun r e=>by
     obtain⟨_,_,_,_,_,_,h5⟩:=HO3.out.form
     exact(h5 r e).2.1)
    have HSY:=jq ((H2.out.here HB2.out).sl.here HB3.out);clear ho3 hg3)
  |(at_builtin;refine Qs _ rfl (.tmp 21) (.tmp 22) _ rfl QO Qc QV (base:=w2.1.size) (.slice A3 n c3) xs rfl HO3.out _ _ n' c' ys rfl HSY.out (by rw[<-HEN.out];omega) HB3.out.size ?_
    intro A5 c5 w5 ho5 hg5 _;rw[<-HEN.out] at ho5 ⊢;have HO5:=jq ho5;have HB5:=jq (HB2.out.trans ((HB3.out.trans (Qn hg5 HB3.out.size (Nat.le_refl _) HFR3.out)).mono HB2.out.size));clear ho5 hg5))
 have H5:=jq (H.out.here HB5.out)
 have HZ5:=jq (show Fxs w5 w5.1.size A5 (n+n') (xs++ys) from⟨HO5.out.sl Qc,fun x hx=>by
  rcases List.mem_append.1 hx with hx|hx
  ·exact(H1.out.all x hx).here HB5.out
  ·exact(H2.out.all x hx).here HB5.out⟩)
 have HM:=jq (show n+n'<=200000 by omega);clear HO5 HB5 HO3 HB3 HFR3 HSY HOA HBA HSA HB2 H1 H2 H hb0 hn hn' HEN HEM;generalize n+n'=m at*;generalize xs++ys=zs at*;generalize hpp:(fun k=>decide (QA (xs.map (·.1)) k≠QA (ys.map (·.1)) k))=p at*;have HDP:=jq (show ∀(key:List UInt8) W (hW:Below w.1.size w W),Calls Tryz.prog 40 #[.slice A n c,.slice A' n' c',.string ⟨key.toArray⟩] W fun e w'=>e=.returned (.bool (p key))/\Below W.1.size W w' from hpp▸HDI.out);clear HDI hpp;go_wp2_with fail
 go_loopw [7,8,10] (fun dd ff i wr=>∃(k:Nat),k<=m/\dd=.int .i64 (Zaj p ((zs.map (·.1)).take k)).1/\ff=.bool (Zaj p ((zs.map (·.1)).take k)).2/\i=.int .i64 k/\Hid (Kp w [] wr)/\Hid (Below w5.1.size w5 wr)) (fun _ _ i _=>m-(intOf i).toNat)
 case atStart=>exact⟨0,Nat.zero_le _,rfl,rfl,rfl,H5,Below.refl _ _⟩
 case round=>
  clear H5;obtain⟨k,hk,rfl,rfl,rfl,H,HB⟩:=hrel
  by_cases hlt:k<m
  ·obtain⟨b,off,f,u,rfl,hb,hx,hm,hr⟩:=(HZ5.out.here HB.out).at_ hlt
   have HST:=jq (Zli (q:=p) (show(zs.map (·.1))[k]?=some f by rw[List.getElem?_map,hx];rfl))
   have HRW:=jq (show ∀X,Below wr.1.size wr X->X.cell? ⟨b,off+k*21,none⟩=some (.string ⟨f.key.toArray⟩)/\X.cell? ⟨b,off+k*21+3,none⟩=some (.int .i64 f.day) from fun X hX=>by
    have h1:=Qu hr hX hb;exact⟨by have h:=h1 0 _ rfl;rw[Nat.add_zero] at h;exact h,h1 3 _ rfl⟩)
   have HDQ:=jq (fun W (hW:Below wr.1.size wr W)=>HDP.out f.key W (H.out.bl.trans (hW.mono H.out.bl.size)));have HBL:=jq (Below.refl wr.1.size wr);have hm2:=HM.out;obtain⟨d1,_⟩:=HRW.out _ HBL.out
   have i1:(0:Int)<=(k:Int):=by omega
   have i2:(k:Int)<(m:Int):=by omega
   clear hx hr hb hm;generalize Zaj p ((zs.map (·.1)).take k)=pr at*;obtain⟨d0,f0⟩:=pr
   cases hpk:p f.key with
   |false=>
    have HNX:=jq (show Zaj p ((zs.map (·.1)).take (k+1))=(d0,f0) by rw[HST.out,hpk];rfl);rw[hpk] at HDQ;clear hpk HST;go_wp2_with fail
    refine(HDQ.out _ HBL.out).mono ?_;rintro e w3 ⟨rfl,hb3⟩;obtain⟨_,c3⟩:=HRW.out _ hb3
    have hz3:=jq hb3;clear hb3;go_wp2_with fail
    go_roundw
    case rel=>exact⟨k+1,by omega,by rw[HNX.out],by rw[HNX.out],by go_num,H.out.here hz3.out,HB.out.trans (hz3.out.mono HB.out.size)⟩
    case measure=>simp[intOf];omega
   |true=>
    rw[hpk] at HDQ HST;rw[if_pos rfl] at HST;clear hpk
    cases f0 with
    |false=>
     have HNX:=jq (show Zaj p ((zs.map (·.1)).take (k+1))=(f.day,true) from HST.out);clear HST;go_wp2_with fail
     refine(HDQ.out _ HBL.out).mono ?_;rintro e w3 ⟨rfl,hb3⟩;obtain⟨_,c3⟩:=HRW.out _ hb3
     have hz3:=jq hb3;clear hb3;go_wp2_with fail
     go_roundw
     case rel=>exact⟨k+1,by omega,by rw[HNX.out],by rw[HNX.out],by go_num,H.out.here hz3.out,HB.out.trans (hz3.out.mono HB.out.size)⟩
     case measure=>simp[intOf];omega
    |true=>
     by_cases hdl:f.day<d0
     ·have HNX:=jq (show Zaj p ((zs.map (·.1)).take (k+1))=(f.day,true) from HST.out.trans (if_pos (.inr hdl)));have hd1:decide (f.day<d0)=true:=decide_eq_true hdl;clear HST;go_wp2_with fail
      refine(HDQ.out _ HBL.out).mono ?_;rintro e w3 ⟨rfl,hb3⟩;obtain⟨_,c3⟩:=HRW.out _ hb3
      have hz3:=jq hb3;clear hb3;go_wp2_with fail
      go_roundw
      case rel=>exact⟨k+1,by omega,by rw[HNX.out],by rw[HNX.out],by go_num,H.out.here hz3.out,HB.out.trans (hz3.out.mono HB.out.size)⟩
      case measure=>simp[intOf];omega
     ·have HNX:=jq (show Zaj p ((zs.map (·.1)).take (k+1))=(d0,true) from HST.out.trans (if_neg (by simpa using hdl)));have hd1:decide (f.day<d0)=false:=decide_eq_false hdl;clear HST;go_wp2_with fail
      refine(HDQ.out _ HBL.out).mono ?_;rintro e w3 ⟨rfl,hb3⟩;obtain⟨_,c3⟩:=HRW.out _ hb3
      have hz3:=jq hb3;clear hb3;go_wp2_with fail
      go_roundw
      case rel=>exact⟨k+1,by omega,by rw[HNX.out],by rw[HNX.out],by go_num,H.out.here hz3.out,HB.out.trans (hz3.out.mono HB.out.size)⟩
      case measure=>simp[intOf];omega
  ·obtain rfl:k=m:=by omega
   have HKE:=jq (show(zs.map (·.1)).take k=zs.map (·.1) from List.take_of_length_le (by rw[List.length_map,<-HZ5.out.len];exact Nat.le_refl _));rw[HKE.out];generalize Zaj p (zs.map (·.1))=rr at*;go_wp2_with fail
   first|go_ret3|skip
   rw[<-HPO.out,HRS.out];exact⟨rfl,H.out.bl⟩
end
section
attribute [local go_sem] Oper.semAt_some
attribute [local go_sem ↓] Go.wp_at_zero Go.wp_at_succ Ql Qz
theorem Zlj(a b:List Fct):(ZaZ a b).1.length<=a.length+b.length:=by
 unfold ZaZ
 split
 ·simp
 ·refine Nat.le_trans (ZfD _) ?_;rw[List.length_map,List.length_append];exact Nat.add_le_add (List.length_filter_le _ _) (List.length_filter_le _ _)
theorem Zep(A A':Option Addr)(n n' c c':Nat)(xs ys:List Fx)(w:World)(hp:Env w)(hcap:n<=c)(hnil:A=none->c=0)(hs:Sl QF 21 w w.1.size A n xs)(hn:n<=maxLen)(hi:∀x∈xs,FxI w x)
 (hcap':n'<=c') (hnil':A'=none->c'=0) (hs':Sl QF 21 w w.1.size A' n' ys) (hn':n'<=maxLen) (hi':∀x∈ys,FxI w x):
 Calls Tryz.prog 4 #[.slice A n c,.slice A' n' c'] w fun e w'=>e=.returned (.bool true)/\Below w.1.size w w':=by
 have hml:maxLen<=9223372036854775807:=by decide
 have H:=jq (Kp.start hp);have HG1:=jq (YZ A n c xs w hp hs (Vd hi) (by omega));have HG2:=jq (fun W (hb:Below w.1.size w W)=>YZ A' n' c' ys W (hp.here hb) ((hs'.below hb).more hb.size) (fun x hx=>⟨((Vd hi' x hx).1).here hb,(Vd hi' x hx).2⟩) (by omega));have HF1:=jq (fun(hg:∀x∈xs,GrX x)=>XO hs hi hg);have HF2:=jq (fun(hg:∀x∈ys,GrX x)=>XO hs' hi' hg);have HC:=jq (And.intro (And.intro hcap hnil) (And.intro hcap' hnil'));have HPW:=jq hp;have HAE:=jq (show ∀W,Hid (Kp w [] W)->Calls Tryz.prog 7 #[] W fun e w'=>e=.returned (.bool true)/\Below W.1.size W w' from fun W h=>Zbf W h.out.pw);clear hp hs hs' hi hi' hcap hnil hcap' hnil' hn hn';go_enter Tryz.func4,Tryz.ntmps4
 go_wp2_with fail
 refine HG1.out.mono ?_;rintro e w1 ⟨⟨b,rfl,hP⟩,hb1⟩;have HP:=jq hP;have H1:=jq (H.out.here hb1);clear hP hb1 H HG1
 cases b with
 |true=>
  go_wp2_with fail
  refine(HAE.out _ H1).mono ?_;rintro e w2 ⟨rfl,hb2⟩;go_wp2_with fail
  first|go_ret|skip
  exact⟨rfl,(H1.out.here hb2).bl⟩
 |false=>
 go_wp2_with fail
 refine(HG2.out _ H1.out.bl).mono ?_;rintro e w2 ⟨⟨b,rfl,hP2⟩,hb2⟩;have HP2:=jq hP2;have H2:=jq (H1.out.here hb2);clear hP2 hb2 H1 HG2
 cases b with
 |true=>
  go_wp2_with fail
  refine(HAE.out _ H2).mono ?_;rintro e w3 ⟨rfl,hb3⟩;go_wp2_with fail
  first|go_ret|skip
  exact⟨rfl,(H2.out.here hb3).bl⟩
 |false=>
 have HN1:=jq (HP.out (by trivial));have HN2:=jq (HP2.out (by trivial));have HX:=jq (HF1.out HN1.out.2);have HY:=jq (HF2.out HN2.out.2);have hn1:n<=1002:=HN1.out.1;have hn2:n'<=1002:=HN2.out.1;have HCH:=jq (fun W (hb:Below w.1.size w W)=>ZdI A A' n c n' c' xs ys W (HPW.out.here hb) (HX.out.here hb) (HY.out.here hb) (by omega) (by omega));have HYC:=jq (fun W (hb:Below w.1.size w W)=>Zlh A A' n c n' c' xs ys W (HPW.out.here hb) (HX.out.here hb) (HY.out.here hb) (by omega) (by omega) HC.out.1 HC.out.2);have HFI:=jq (fun W (hb:Below w.1.size w W)=>Zbt A A' n c n' c' xs ys W (HPW.out.here hb) (HX.out.here hb) (HY.out.here hb) (by omega) (by omega));have HYF:=jq (fun W (hb:Below w.1.size w W)=>ZgL A A' n c n' c' xs ys W (HPW.out.here hb) (HX.out.here hb) (HY.out.here hb) (by omega) (by omega) HC.out.1 HC.out.2)
 have HLC:=jq (show(ZaZ (xs.map (·.1)) (ys.map (·.1))).1.length<=2004 by
  have h:=Zlj (xs.map (·.1)) (ys.map (·.1));rw[List.length_map,List.length_map,<-HX.out.len,<-HY.out.len] at h;omega)
 generalize ZaZ (xs.map (·.1)) (ys.map (·.1))=rc at*;generalize Jd (xs.map (·.1)) (ys.map (·.1))=rf at*;obtain⟨kl,ke⟩:=rc
 obtain⟨fd,fb,fe⟩:=rf
 dsimp only at HCH HYC HLC
 unfold KsPost at HCH HYC;unfold Jr at HFI HYF
 dsimp only at HFI HYF
 clear HP HP2 HF1 HF2 HN1 HN2 HX HY HPW HC;go_wp2_with fail
 refine(HCH.out _ H2.out.bl).mono ?_;rintro e w3 ⟨A3,c3,rfl,ho3,hb3⟩;have H3:=jq (H2.out.here hb3);have HS3:=jq (ho3.sl XP);clear ho3 hb3 HCH H2;go_wp2_with fail
 refine(HYC.out _ H3.out.bl).mono ?_;rintro e w4 ⟨A4,c4,rfl,ho4,hb4⟩;have H4:=jq (H3.out.here hb4);have HS4:=jq (ho4.sl XP);have HS3b:=jq (HS3.out.here hb4);clear ho4 hb4 HYC H3 HS3;have HEQ:=jq (fun W (hb:Below w4.1.size w4 W)=>Zbu A3 A4 kl.length c3 c4 kl W (HS3b.out.here hb) (HS4.out.here hb) (by have:=HLC.out;omega));clear HS3b HS4;go_wp2_with fail
 refine(HFI.out _ H4.out.bl).mono ?_;rintro e w5 ⟨rfl,hb5⟩;have H5:=jq (H4.out.here hb5);have HB5:=jq hb5;clear hb5 HFI H4;go_wp2_with fail
 refine(HYF.out _ H5.out.bl).mono ?_;rintro e w6 ⟨rfl,hb6⟩;have H6:=jq (H5.out.here hb6);have HB6:=jq (HB5.out.trans (hb6.mono HB5.out.size));clear hb6 HYF H5 HB5;go_wp2_with fail
 refine(HEQ.out _ HB6.out).mono ?_;rintro e w7 ⟨rfl,hb7⟩;have H7:=jq (H6.out.here hb7);clear hb7 HEQ H6 HB6;go_wp2_with fail
 refine(HAE.out _ H7).mono ?_;rintro e w8 ⟨rfl,hb8⟩;go_wp2_with fail
 first|go_ret|skip
 exact⟨rfl,(H7.out.here hb8).bl⟩
end
end Go.Proofs.YtmfjmngebldanaaGreatDoor
