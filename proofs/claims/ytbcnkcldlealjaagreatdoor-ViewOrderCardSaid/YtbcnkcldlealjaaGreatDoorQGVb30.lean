/- Vax. -/
import Derived.Test.YtbcnkcldlealjaaGreatDoorQGVb23
import Derived.Test.YtbcnkcldlealjaaGreatDoorQGVb26
import Derived.Test.YtbcnkcldlealjaaGreatDoorQGVb28
set_option maxRecDepth 100000
set_option maxHeartbeats 4000000
namespace Go.Proofs.YtbcnkcldlealjaaGreatDoor
open Go.Lib renaming hid→jq
section
open Go.RowKit Go.Shelf
attribute [local go_sem] Oper.semAt_some
def buF(ps:Array (Nat×Value)):Sem Value:=Instr.build 44 ps
theorem ZhQ(ps:Array (Nat×Value)):Instr.build 44 ps=buF ps:=rfl
attribute [local go_sem ↓] Qq QA ZaX ZhQ
theorem ZhR(k:List UInt8)(s:Int)(b:Bool)(w:World):(buF #[(0,.string ⟨k.toArray⟩),(1,.int .i64 s),(2,.bool b)]).run Tryz.prog w=.ok (.agg (Qa ⟨k,s,b,0,0,[],[],[],[],[],[],[],⟨[],[]⟩,⟨[],[]⟩,⟨[],[]⟩,[],[],0⟩ Qg)) w:=by
 kernel_rfl
theorem ZhS(k:List UInt8)(b:Bool)(w:World):(buF #[(0,.string ⟨k.toArray⟩),(2,.bool b)]).run Tryz.prog w=.ok (.agg (Qa ⟨k,0,b,0,0,[],[],[],[],[],[],[],⟨[],[]⟩,⟨[],[]⟩,⟨[],[]⟩,[],[],0⟩ Qg)) w:=by
 kernel_rfl
theorem Zf2(w:World):(buF #[(0,.string ⟨[98].toArray⟩),(1,.int .i64 4),(2,.bool true)]).run Tryz.prog w=.ok (.agg (Qa ZiU Qg)) w:=ZhR [98] 4 true w
theorem ZdG{w:World}{B:Nat}{f:Fct}(h1:f.picks=[])(h2:f.options=[])(h3:f.Sz 1000):FxM w B (f,Qg):=
 ⟨⟨by rw[show(f,Qg).1.picks=[] from h1];exact Sl.nil,by rw[show(f,Qg).1.options=[] from h2];exact Sl.nil,Nat.le_refl _⟩,Nat.zero_le _,Nat.zero_le _,h3⟩
theorem Zbw(w:World)(xs:List Fx)(h:∀x∈xs,x.2=Qg/\x.1.picks=[]/\x.1.options=[]/\x.1.Sz 1000):
 Fxs (w.alloc (.cells (xs.flatMap Qt).toArray 44)) (w.alloc (.cells (xs.flatMap Qt).toArray 44)).heap.size (some ⟨w.1.size,0,none⟩) xs.length xs:=
 ⟨(Sl.lit (enc:=Qt) (k:=21) w _ _ xs rfl Qc).more (by simp),fun x hx=>by
   obtain⟨h1,h2,h3,h4⟩:=h x hx
   obtain⟨f,v⟩:=x
   subst h1;exact ZdG h2 h3 h4⟩
theorem Zj7{key:List UInt8}{stamp day:Int}(hk:key.length<=24)(h1:Jh stamp)(h2:Jh day):(XW key stamp day).Sz 1000:=by
 have h0:∀n:Nat,n<=3->n<=1000:=fun n h=>by omega
 exact⟨Nat.le_trans hk (by omega),h0 0 (by omega),h0 0 (by omega),h0 3 (by omega),h0 0 (by omega),h0 0 (by omega),h0 1 (by omega),h0 0 (by omega),⟨h0 0 (by omega),h0 0 (by omega)⟩,⟨h0 0 (by omega),h0 0 (by omega)⟩,⟨h0 0 (by omega),h0 0 (by omega)⟩,(fun _ h=>by cases h),(fun _ h=>by cases h),h1,h2,
  (show Jh 1 from⟨by decide,by decide⟩),(show Jh 0 from⟨by decide,by decide⟩)⟩
theorem Zj8:ZiU.Sz 1000:=
 ⟨by decide,by decide,by decide,by decide,by decide,by decide,by decide,by decide,⟨by decide,by decide⟩,⟨by decide,by decide⟩,⟨by decide,by decide⟩,(fun _ h=>by cases h),(fun _ h=>by cases h),⟨by decide,by decide⟩,⟨by decide,by decide⟩,⟨by decide,by decide⟩,⟨by decide,by decide⟩⟩
def vx(l:List Fct):List Fx:=l.map fun f=>(f,Qg)
theorem Zeu(l:List Fct):(vx l).map (·.1)=l:=by unfold vx;rw[List.map_map];exact List.map_id' l
theorem ZhT{l:List Fct}(h:∀f∈l,f.picks=[]/\f.options=[]/\f.Sz 1000):∀x∈vx l,x.2=Qg/\x.1.picks=[]/\x.1.options=[]/\x.1.Sz 1000:=by
 intro x hx;obtain⟨f,hf,rfl⟩:=List.mem_map.1 hx
 exact⟨rfl,h f hf⟩
theorem Zbx{key:List UInt8}{stamp day:Int}(hk:key.length<=24)(h1:Jh stamp)(h2:Jh day):(XW key stamp day).picks=[]/\(XW key stamp day).options=[]/\(XW key stamp day).Sz 1000:=⟨rfl,rfl,Zj7 hk h1 h2⟩
theorem Zj9:∀f∈aw4,f.picks=[]/\f.options=[]/\f.Sz 1000:=by
 intro f hf;simp only[aw4,List.mem_cons,List.mem_nil_iff,or_false] at hf
 rcases hf with rfl|rfl|rfl|rfl
 ·exact Zbx (by decide) ⟨by decide,by decide⟩ ⟨by decide,by decide⟩
 ·exact Zbx (by decide) ⟨by decide,by decide⟩ ⟨by decide,by decide⟩
 ·exact Zbx (by decide) ⟨by decide,by decide⟩ ⟨by decide,by decide⟩
 ·exact⟨rfl,rfl,Zj8⟩
theorem Zka:∀f∈awX,f.picks=[]/\f.options=[]/\f.Sz 1000:=by
 intro f hf;simp only[awX,List.mem_cons,List.mem_nil_iff,or_false] at hf
 rcases hf with rfl|rfl<;>exact Zbx (by decide) ⟨by decide,by decide⟩ ⟨by decide,by decide⟩
theorem Zkb:∀f∈awY,f.picks=[]/\f.options=[]/\f.Sz 1000:=by
 intro f hf;simp only[awY,List.mem_cons,List.mem_nil_iff,or_false] at hf
 rcases hf with rfl|rfl<;>exact Zbx (by decide) ⟨by decide,by decide⟩ ⟨by decide,by decide⟩
theorem ZhU{xs:List Fx}{l:List Fct}{n:Nat}(h:xs.map (·.1)=l)(hl:l.length=n):xs.length=n:=by rw[<-hl,<-h,List.length_map]
theorem Zag(w:World)(hp:Env w):Calls Tryz.prog 12 #[] w fun e w'=>e=.returned (.bool true)/\Below w.1.size w w':=by
 have H:=jq (Kp.start hp);have hbu:=Zf2;clear hp;go_enter Tryz.func12,Tryz.ntmps12
 go_wp2_with fail
 refine(Xg [97] 1 5 _).mono ?_;rintro e w1 ⟨rfl,hb1⟩;have H1:=jq (H.out.here hb1);clear hb1 H;go_wp2_with fail
 refine(Xg [98] 2 3 _).mono ?_;rintro e w2 ⟨rfl,hb2⟩;have H2:=jq (H1.out.here hb2);clear hb2 H1;go_wp2_with fail
 refine(Xg [97] 3 2 _).mono ?_;rintro e w3 ⟨rfl,hb3⟩;have H3:=jq (H2.out.here hb3);have hbs:(blF 4 #[(0,.agg (Qa (XW [97] 1 5) Qg)),(1,.agg (Qa (XW [98] 2 3) Qg)),(2,.agg (Qa (XW [97] 3 2) Qg)),(3,.agg (Qa ZiU Qg))]).run Tryz.prog w3=.ok (.slice (some ⟨w3.1.size,0,none⟩) 4 4) (w3.alloc (.cells ((vx aw4).flatMap Qt).toArray 44)):=Zbh w3 (vx aw4) _ (by simp[vx,aw4]) (by decide) rfl;have H4:=jq (H3.out.alloc (.cells ((vx aw4).flatMap Qt).toArray 44));have HF4:=jq (Zbw w3 (vx aw4) (ZhT Zj9));have HO2:=jq (fun W (hb:Below (w3.alloc (.cells ((vx aw4).flatMap Qt).toArray 44)).heap.size (w3.alloc (.cells ((vx aw4).flatMap Qt).toArray 44)) W) (k:Int)=>Jw (some ⟨w3.1.size,0,none⟩) 4 4 (vx aw4) k W (H4.out.here hb).pw (Nat.le_refl _) (fun e=>by cases e) (HF4.out.here hb) (by omega));rw[Zeu] at HO2;have HA2:=jq (fun W hb=>HO2.out W hb 2);have HA3:=jq (fun W hb=>HO2.out W hb 3);have HA4:=jq (fun W hb=>HO2.out W hb 4);rw[ZjU] at HA2;rw[ZjV] at HA3;rw[ZjW] at HA4
 dsimp only at HA2 HA3 HA4
 unfold FsPost at HA2 HA3 HA4;clear hb3 H2 HO2 HF4;go_wp2_with fail
 generalize w3.alloc (.cells ((vx aw4).flatMap Qt).toArray 44)=W4 at*;generalize w3.1.size=p4 at*;refine(HA2.out _ (Below.refl _ _)).mono ?_;rintro e w5 ⟨A5,c5,x5,rfl,hf5,hx5,_,hb5⟩;have hl5:=ZhU hx5 (show awX.length=2 from rfl);rw[hl5] at hf5 ⊢;have H5:=jq (H4.out.here hb5);have HB5:=jq hb5;have HF5:=jq hf5;have HX5:=jq hx5;clear hb5 hf5 hx5 hl5 hbs hbu HA2 H3;go_wp2_with fail
 refine(HA3.out _ HB5.out).mono ?_;rintro e w6 ⟨A6,c6,x6,rfl,hf6,hx6,hc6,hb6⟩;have hl6:=ZhU hx6 (show awY.length=2 from rfl);rw[hl6] at hf6 hc6 ⊢;have hc61:=hc6.1;have H6:=jq (H5.out.here hb6);have HB6:=jq (HB5.out.trans (hb6.mono HB5.out.size));have HF6:=jq hf6;have HX6:=jq hx6;have HG5:=jq (HF5.out.here hb6);clear hb6 hf6 hx6 hl6 hc6 HA3 HB5 HF5 H5;go_wp2_with fail
 refine(HA4.out _ HB6.out).mono ?_;rintro e w7 ⟨A7,c7,x7,rfl,hf7,hx7,_,hb7⟩;have hl7:=ZhU hx7 (show awZ.length=1 from rfl);rw[hl7] at hf7 ⊢;have H7:=jq (H6.out.here hb7);have HF7:=jq hf7;have HX7:=jq hx7;have HG6:=jq (HF6.out.here hb7);have HI5:=jq (HG5.out.here hb7);clear hb7 hf7 hx7 hl7 HA4 HB6 HF6 HG5 H6;have HFI:=jq (Zav A5 A6 2 c5 2 c6 x5 x6 w7 H7.out.pw HI5.out HG6.out (by omega) (by omega));rw[HX5.out,HX6.out,Zhn] at HFI;unfold Zaf at HFI
 dsimp only at HFI
 go_wp2_with fail
 refine HFI.out.mono ?_;rintro e w8 ⟨rfl,hb8⟩;have H8:=jq (H7.out.here hb8);have J5:=jq (HI5.out.here hb8);have J6:=jq (HG6.out.here hb8);have J7:=jq (HF7.out.here hb8);clear hb8 HFI H7 HI5 HG6 HF7;have HCH:=jq (Zcl A5 A6 2 c5 2 c6 x5 x6 w8 H8.out.pw J5.out J6.out (by omega) (by omega));rw[HX5.out,HX6.out,ZjX] at HCH;unfold KsPost at HCH
 dsimp only at HCH
 go_wp2_with fail
 refine HCH.out.mono ?_;rintro e w9 ⟨A9,c9,rfl,ho9,hb9⟩;have H9:=jq (H8.out.here hb9);have K5:=jq (J5.out.here hb9);have K6:=jq (J6.out.here hb9);have K7:=jq (J7.out.here hb9);have H10:=jq (H9.out.alloc (.cells #[.string ⟨[97].toArray⟩] 9));have HB10:=jq ((Below.refl w9.1.size w9).alloc (Nat.le_refl _) (.cells #[.string ⟨[97].toArray⟩] 9));have HEQ:=jq (ZdF A9 (some ⟨w9.1.size,0,none⟩) 1 c9 1 [[97]] (w9.alloc (.cells #[.string ⟨[97].toArray⟩] 9)) ((ho9.sl JU).here HB10.out) (ZcN (heap_alloc_new w9 _)) (by omega));clear ho9 hb9 HCH H8 J5 J6 J7;go_wp2_with fail
 refine HEQ.out.mono ?_;rintro e w11 ⟨rfl,hb11⟩;have H11:=jq (H10.out.here hb11);have HB11:=jq (HB10.out.trans (hb11.mono HB10.out.size));have L5:=jq (K5.out.here HB11.out);have L6:=jq (K6.out.here HB11.out);have L7:=jq (K7.out.here HB11.out);clear hb11 HEQ HB10 H10 HB11 K5 K6 K7 H9;go_wp2_with fail
 refine(Xg [98] 0 3 _).mono ?_;rintro e w12 ⟨rfl,hb12⟩;have H12:=jq (H11.out.here hb12);have M5:=jq (L5.out.here hb12);have M6:=jq (L6.out.here hb12);have M7:=jq (L7.out.here hb12);clear hb12 H11 L5 L6 L7;go_wp2_with fail
 refine(Xg [97] 0 5 _).mono ?_;rintro e w13 ⟨rfl,hb13⟩;have H13:=jq (H12.out.here hb13);have N5:=jq (M5.out.here hb13);have N6:=jq (M6.out.here hb13);have N7:=jq (M7.out.here hb13);clear hb13 H12 M5 M6 M7;have hbs:(blF 2 #[(0,.agg (Qa (XW [98] 0 3) Qg)),(1,.agg (Qa (XW [97] 0 5) Qg))]).run Tryz.prog w13=.ok (.slice (some ⟨w13.1.size,0,none⟩) 2 2) (w13.alloc (.cells ((vx awX).flatMap Qt).toArray 44)):=Zbh w13 (vx awX) _ (by simp[vx,awX]) (by decide) rfl;have H14:=jq (H13.out.alloc (.cells ((vx awX).flatMap Qt).toArray 44));have HA14:=jq ((Below.refl w13.1.size w13).alloc (Nat.le_refl _) (.cells ((vx awX).flatMap Qt).toArray 44));have HS14:=jq (QL A5 (some ⟨w13.1.size,0,none⟩) 2 2 c5 2 x5 (vx awX) _ H14.out.pw (N5.out.here HA14.out) (Zbw w13 (vx awX) (ZhT Zka)) (by omega) (by omega));rw[decide_eq_true (show x5.map (·.1)=(vx awX).map (·.1) by rw[HX5.out,Zeu])] at HS14;have O6:=jq (N6.out.here HA14.out);have O7:=jq (N7.out.here HA14.out);clear N5 N6 N7 H13;go_wp2_with fail
 refine HS14.out.mono ?_;rintro e w15 ⟨rfl,hb15⟩;have H15:=jq (H14.out.here hb15);have P6:=jq (O6.out.here hb15);have P7:=jq (O7.out.here hb15);clear hb15 hbs H14 HA14 HS14 O6 O7 HX5;go_wp2_with fail
 refine(Xg [97] 0 2 _).mono ?_;rintro e w16 ⟨rfl,hb16⟩;have H16:=jq (H15.out.here hb16);have Q6:=jq (P6.out.here hb16);have Q7:=jq (P7.out.here hb16);clear hb16 H15 P6 P7;go_wp2_with fail
 refine(Xg [98] 0 3 _).mono ?_;rintro e w17 ⟨rfl,hb17⟩;have H17:=jq (H16.out.here hb17);have R6:=jq (Q6.out.here hb17);have R7:=jq (Q7.out.here hb17);clear hb17 H16 Q6 Q7;have hbs:(blF 2 #[(0,.agg (Qa (XW [97] 0 2) Qg)),(1,.agg (Qa (XW [98] 0 3) Qg))]).run Tryz.prog w17=.ok (.slice (some ⟨w17.1.size,0,none⟩) 2 2) (w17.alloc (.cells ((vx awY).flatMap Qt).toArray 44)):=Zbh w17 (vx awY) _ (by simp[vx,awY]) (by decide) rfl;have H18:=jq (H17.out.alloc (.cells ((vx awY).flatMap Qt).toArray 44));have HA18:=jq ((Below.refl w17.1.size w17).alloc (Nat.le_refl _) (.cells ((vx awY).flatMap Qt).toArray 44));have HS18:=jq (QL A6 (some ⟨w17.1.size,0,none⟩) 2 2 c6 2 x6 (vx awY) _ H18.out.pw (R6.out.here HA18.out) (Zbw w17 (vx awY) (ZhT Zkb)) (by omega) (by omega));rw[decide_eq_true (show x6.map (·.1)=(vx awY).map (·.1) by rw[HX6.out,Zeu])] at HS18;have S6:=jq (R6.out.here HA18.out);have S7:=jq (R7.out.here HA18.out);clear R6 R7 H17;go_wp2_with fail
 refine HS18.out.mono ?_;rintro e w19 ⟨rfl,hb19⟩;have H19:=jq (H18.out.here hb19);have HSZ:=jq (QL A7 A6 1 1 c7 c6 x7 (x6.take 1) w19 H19.out.pw (S7.out.here hb19) ((S6.out.here hb19).upto (by omega)) (by omega) (by omega));rw[decide_eq_true (show x7.map (·.1)=(x6.take 1).map (·.1) by rw[HX7.out,List.map_take,HX6.out];rfl)] at HSZ;have hc0:1<=c6:=by omega
 clear hb19 hbs H18 HA18 HS18 S6 S7 HX6 HX7;go_wp2_with fail
 refine HSZ.out.mono ?_;rintro e w20 ⟨rfl,hb20⟩;have H20:=jq (H19.out.here hb20);clear hb20 HSZ H19;go_wp2_with fail
 first|go_ret|skip
 exact⟨rfl,H20.out.bl⟩
end
end Go.Proofs.YtbcnkcldlealjaaGreatDoor
