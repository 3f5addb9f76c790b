/- Vax, Vwd. -/
import Derived.Test.YtbcnkcldlealjaaGreatDoorQGVa27
import Derived.Test.YtbcnkcldlealjaaGreatDoorQGVa30
import Derived.Test.YtbcnkcldlealjaaGreatDoorQGVa33
set_option maxRecDepth 100000
set_option maxHeartbeats 4000000
namespace Go.Proofs.YtbcnkcldlealjaaGreatDoor
open Go.Lib renaming hid→jq
open Go.RowKit Go.Shelf
section
attribute [local go_sem] Oper.semAt_some
def buF(ps:Array (Nat×Value)):Sem Value:=Instr.build 44 ps
theorem ZiO(ps:Array (Nat×Value)):Instr.build 44 ps=buF ps:=rfl
attribute [local go_sem ↓] Qr QC ZbC ZiO
theorem Zg0(k:List UInt8)(s:Int)(b:Bool)(w:World):(buF #[(0,.string ⟨k.toArray⟩),(1,.int .i64 s),(2,.bool b)]).run Tryz.prog w=.ok (.agg (Qb ⟨k,s,b,0,0,[],[],[],[],[],[],[],⟨[],[]⟩,⟨[],[]⟩,⟨[],[]⟩,[],[],0⟩ Qj)) w:=by
 kernel_rfl
theorem Zfa(w:World):(buF #[(0,.string ⟨[98].toArray⟩),(1,.int .i64 4),(2,.bool true)]).run Tryz.prog w=.ok (.agg (Qb ZhT Qj)) w:=Zg0 [98] 4 true w
theorem Zg1{w:World}{B:Nat}{f:Fct}(h1:f.picks=[])(h2:f.options=[])(h3:f.Sz 1000):FxM w B (f,Qj):=
 ⟨⟨by rw[show(f,Qj).1.picks=[] from h1];exact Sl.nil,by rw[show(f,Qj).1.options=[] from h2];exact Sl.nil,Nat.le_refl _⟩,Nat.zero_le _,Nat.zero_le _,h3⟩
theorem ZaK(w:World)(xs:List Fx)(h:∀x∈xs,x.2=Qj/\x.1.picks=[]/\x.1.options=[]/\x.1.Sz 1000):
 Fxs (w.alloc (.cells (xs.flatMap Qt).toArray 44)) (w.alloc (.cells (xs.flatMap Qt).toArray 44)).heap.size (some ⟨w.1.size,0,none⟩) xs.length xs:=
 ⟨(Sl.lit (enc:=Qt) (k:=21) w _ _ xs rfl Qc).more (by simp),fun x hx=>by
   obtain⟨h1,h2,h3,h4⟩:=h x hx
   obtain⟨f,v⟩:=x
   subst h1;exact Zg1 h2 h3 h4⟩
theorem ZiP{key:List UInt8}{stamp day:Int}(hk:key.length<=24)(h1:Jd stamp)(h2:Jd day):(XH key stamp day).Sz 1000:=by
 have h0:∀n:Nat,n<=3->n<=1000:=fun n h=>by omega
 exact⟨Nat.le_trans hk (by omega),h0 0 (by omega),h0 0 (by omega),h0 3 (by omega),h0 0 (by omega),h0 0 (by omega),h0 1 (by omega),h0 0 (by omega),⟨h0 0 (by omega),h0 0 (by omega)⟩,⟨h0 0 (by omega),h0 0 (by omega)⟩,⟨h0 0 (by omega),h0 0 (by omega)⟩,(fun _ h=>by cases h),(fun _ h=>by cases h),h1,h2,
  (show Jd 1 from⟨by decide,by decide⟩),(show Jd 0 from⟨by decide,by decide⟩)⟩
theorem ZiQ:ZhT.Sz 1000:=
 ⟨by decide,by decide,by decide,by decide,by decide,by decide,by decide,by decide,⟨by decide,by decide⟩,⟨by decide,by decide⟩,⟨by decide,by decide⟩,(fun _ h=>by cases h),(fun _ h=>by cases h),⟨by decide,by decide⟩,⟨by decide,by decide⟩,⟨by decide,by decide⟩,⟨by decide,by decide⟩⟩
def vx(l:List Fct):List Fx:=l.map fun f=>(f,Qj)
theorem ZdH(l:List Fct):(vx l).map (·.1)=l:=by unfold vx;rw[List.map_map];exact List.map_id' l
theorem Zg2{l:List Fct}(h:∀f∈l,f.picks=[]/\f.options=[]/\f.Sz 1000):∀x∈vx l,x.2=Qj/\x.1.picks=[]/\x.1.options=[]/\x.1.Sz 1000:=by
 intro x hx;obtain⟨f,hf,rfl⟩:=List.mem_map.1 hx
 exact⟨rfl,h f hf⟩
theorem ZaL{key:List UInt8}{stamp day:Int}(hk:key.length<=24)(h1:Jd stamp)(h2:Jd day):(XH key stamp day).picks=[]/\(XH key stamp day).options=[]/\(XH key stamp day).Sz 1000:=⟨rfl,rfl,ZiP hk h1 h2⟩
theorem ZiR:∀f∈aw4,f.picks=[]/\f.options=[]/\f.Sz 1000:=by
 intro f hf;simp only[aw4,List.mem_cons,List.mem_nil_iff,or_false] at hf
 rcases hf with rfl|rfl|rfl|rfl
 ·exact ZaL (by decide) ⟨by decide,by decide⟩ ⟨by decide,by decide⟩
 ·exact ZaL (by decide) ⟨by decide,by decide⟩ ⟨by decide,by decide⟩
 ·exact ZaL (by decide) ⟨by decide,by decide⟩ ⟨by decide,by decide⟩
 ·exact⟨rfl,rfl,ZiQ⟩
theorem ZiS:∀f∈awX,f.picks=[]/\f.options=[]/\f.Sz 1000:=by
 intro f hf;simp only[awX,List.mem_cons,List.mem_nil_iff,or_false] at hf
 rcases hf with rfl|rfl<;>exact ZaL (by decide) ⟨by decide,by decide⟩ ⟨by decide,by decide⟩
theorem ZiT:∀f∈awY,f.picks=[]/\f.options=[]/\f.Sz 1000:=by
 intro f hf;simp only[awY,List.mem_cons,List.mem_nil_iff,or_false] at hf
 rcases hf with rfl|rfl<;>exact ZaL (by decide) ⟨by decide,by decide⟩ ⟨by decide,by decide⟩
theorem Zel{xs:List Fx}{l:List Fct}{n:Nat}(h:xs.map (·.1)=l)(hl:l.length=n):xs.length=n:=by rw[<-hl,<-h,List.length_map]
theorem Zbx(w:World)(hp:Env w):Calls Tryz.prog 12 #[] w fun e w'=>e=.returned (.bool true)/\Below w.1.size w w':=by
 have H:=jq (Kp.start hp);have hbu:=Zfa;clear hp;go_enter Tryz.func12,Tryz.ntmps12
 go_wp2_with fail
 refine(QT [97] 1 5 _).mono ?_;rintro e w1 ⟨rfl,hb1⟩;have H1:=jq (H.out.here hb1);clear hb1 H;go_wp2_with fail
 refine(QT [98] 2 3 _).mono ?_;rintro e w2 ⟨rfl,hb2⟩;have H2:=jq (H1.out.here hb2);clear hb2 H1;go_wp2_with fail
 refine(QT [97] 3 2 _).mono ?_;rintro e w3 ⟨rfl,hb3⟩;have H3:=jq (H2.out.here hb3);have hbs:(blF 4 #[(0,.agg (Qb (XH [97] 1 5) Qj)),(1,.agg (Qb (XH [98] 2 3) Qj)),(2,.agg (Qb (XH [97] 3 2) Qj)),(3,.agg (Qb ZhT Qj))]).run Tryz.prog w3=.ok (.slice (some ⟨w3.1.size,0,none⟩) 4 4) (w3.alloc (.cells ((vx aw4).flatMap Qt).toArray 44)):=Zax w3 (vx aw4) _ (by simp[vx,aw4]) (by decide) rfl;have H4:=jq (H3.out.alloc (.cells ((vx aw4).flatMap Qt).toArray 44));have HF4:=jq (ZaK w3 (vx aw4) (Zg2 ZiR));have HO2:=jq (fun W (hb:Below (w3.alloc (.cells ((vx aw4).flatMap Qt).toArray 44)).heap.size (w3.alloc (.cells ((vx aw4).flatMap Qt).toArray 44)) W) (k:Int)=>ZaE (some ⟨w3.1.size,0,none⟩) 4 4 (vx aw4) k W (H4.out.here hb).pw (Nat.le_refl _) (fun e=>by cases e) (HF4.out.here hb) (by omega));rw[ZdH] at HO2;have HA2:=jq (fun W hb=>HO2.out W hb 2);have HA3:=jq (fun W hb=>HO2.out W hb 3);have HA4:=jq (fun W hb=>HO2.out W hb 4);rw[ZiE] at HA2;rw[ZiF] at HA3;rw[ZiG] at HA4
 dsimp only at HA2 HA3 HA4
 unfold FsPost at HA2 HA3 HA4;clear hb3 H2 HO2 HF4;go_wp2_with fail
 generalize w3.alloc (.cells ((vx aw4).flatMap Qt).toArray 44)=W4 at*;generalize w3.1.size=p4 at*;refine(HA2.out _ (Below.refl _ _)).mono ?_;rintro e w5 ⟨A5,c5,x5,rfl,hf5,hx5,_,hb5⟩;have hl5:=Zel hx5 (show awX.length=2 from rfl);rw[hl5] at hf5 ⊢;have H5:=jq (H4.out.here hb5);have HB5:=jq hb5;have HF5:=jq hf5;have HX5:=jq hx5;clear hb5 hf5 hx5 hl5 hbs hbu HA2 H3;go_wp2_with fail
 refine(HA3.out _ HB5.out).mono ?_;rintro e w6 ⟨A6,c6,x6,rfl,hf6,hx6,hc6,hb6⟩;have hl6:=Zel hx6 (show awY.length=2 from rfl);rw[hl6] at hf6 hc6 ⊢;have hc61:=hc6.1;have H6:=jq (H5.out.here hb6);have HB6:=jq (HB5.out.trans (hb6.mono HB5.out.size));have HF6:=jq hf6;have HX6:=jq hx6;have HG5:=jq (HF5.out.here hb6);clear hb6 hf6 hx6 hl6 hc6 HA3 HB5 HF5 H5;go_wp2_with fail
 refine(HA4.out _ HB6.out).mono ?_;rintro e w7 ⟨A7,c7,x7,rfl,hf7,hx7,_,hb7⟩;have hl7:=Zel hx7 (show awZ.length=1 from rfl);rw[hl7] at hf7 ⊢;have H7:=jq (H6.out.here hb7);have HF7:=jq hf7;have HX7:=jq hx7;have HG6:=jq (HF6.out.here hb7);have HI5:=jq (HG5.out.here hb7);clear hb7 hf7 hx7 hl7 HA4 HB6 HF6 HG5 H6;have HFI:=jq (ZcP A5 A6 2 c5 2 c6 x5 x6 w7 H7.out.pw HI5.out HG6.out (by omega) (by omega));rw[HX5.out,HX6.out,Zgx] at HFI;unfold ZaH at HFI
 dsimp only at HFI
 go_wp2_with fail
 refine HFI.out.mono ?_;rintro e w8 ⟨rfl,hb8⟩;have H8:=jq (H7.out.here hb8);have J5:=jq (HI5.out.here hb8);have J6:=jq (HG6.out.here hb8);have J7:=jq (HF7.out.here hb8);clear hb8 HFI H7 HI5 HG6 HF7;have HCH:=jq (Ze9 A5 A6 2 c5 2 c6 x5 x6 w8 H8.out.pw J5.out J6.out (by omega) (by omega));rw[HX5.out,HX6.out,ZiH] at HCH;unfold KsPost at HCH
 dsimp only at HCH
 go_wp2_with fail
 refine HCH.out.mono ?_;rintro e w9 ⟨A9,c9,rfl,ho9,hb9⟩;have H9:=jq (H8.out.here hb9);have K5:=jq (J5.out.here hb9);have K6:=jq (J6.out.here hb9);have K7:=jq (J7.out.here hb9);have H10:=jq (H9.out.alloc (.cells #[.string ⟨[97].toArray⟩] 9));have HB10:=jq ((Below.refl w9.1.size w9).alloc (Nat.le_refl _) (.cells #[.string ⟨[97].toArray⟩] 9));have HEQ:=jq (ZcW A9 (some ⟨w9.1.size,0,none⟩) 1 c9 1 [[97]] (w9.alloc (.cells #[.string ⟨[97].toArray⟩] 9)) ((ho9.sl ZbS).here HB10.out) (Zb3 (heap_alloc_new w9 _)) (by omega));clear ho9 hb9 HCH H8 J5 J6 J7;go_wp2_with fail
 refine HEQ.out.mono ?_;rintro e w11 ⟨rfl,hb11⟩;have H11:=jq (H10.out.here hb11);have HB11:=jq (HB10.out.trans (hb11.mono HB10.out.size));have L5:=jq (K5.out.here HB11.out);have L6:=jq (K6.out.here HB11.out);have L7:=jq (K7.out.here HB11.out);clear hb11 HEQ HB10 H10 HB11 K5 K6 K7 H9;go_wp2_with fail
 refine(QT [98] 0 3 _).mono ?_;rintro e w12 ⟨rfl,hb12⟩;have H12:=jq (H11.out.here hb12);have M5:=jq (L5.out.here hb12);have M6:=jq (L6.out.here hb12);have M7:=jq (L7.out.here hb12);clear hb12 H11 L5 L6 L7;go_wp2_with fail
 refine(QT [97] 0 5 _).mono ?_;rintro e w13 ⟨rfl,hb13⟩;have H13:=jq (H12.out.here hb13);have N5:=jq (M5.out.here hb13);have N6:=jq (M6.out.here hb13);have N7:=jq (M7.out.here hb13);clear hb13 H12 M5 M6 M7;have hbs:(blF 2 #[(0,.agg (Qb (XH [98] 0 3) Qj)),(1,.agg (Qb (XH [97] 0 5) Qj))]).run Tryz.prog w13=.ok (.slice (some ⟨w13.1.size,0,none⟩) 2 2) (w13.alloc (.cells ((vx awX).flatMap Qt).toArray 44)):=Zax w13 (vx awX) _ (by simp[vx,awX]) (by decide) rfl;have H14:=jq (H13.out.alloc (.cells ((vx awX).flatMap Qt).toArray 44));have HA14:=jq ((Below.refl w13.1.size w13).alloc (Nat.le_refl _) (.cells ((vx awX).flatMap Qt).toArray 44));have HS14:=jq (XZ A5 (some ⟨w13.1.size,0,none⟩) 2 2 c5 2 x5 (vx awX) _ H14.out.pw (N5.out.here HA14.out) (ZaK w13 (vx awX) (Zg2 ZiS)) (by omega) (by omega));rw[decide_eq_true (show x5.map (·.1)=(vx awX).map (·.1) by rw[HX5.out,ZdH])] at HS14;have O6:=jq (N6.out.here HA14.out);have O7:=jq (N7.out.here HA14.out);clear N5 N6 N7 H13;go_wp2_with fail
 refine HS14.out.mono ?_;rintro e w15 ⟨rfl,hb15⟩;have H15:=jq (H14.out.here hb15);have P6:=jq (O6.out.here hb15);have P7:=jq (O7.out.here hb15);clear hb15 hbs H14 HA14 HS14 O6 O7 HX5;go_wp2_with fail
 refine(QT [97] 0 2 _).mono ?_;rintro e w16 ⟨rfl,hb16⟩;have H16:=jq (H15.out.here hb16);have Q6:=jq (P6.out.here hb16);have Q7:=jq (P7.out.here hb16);clear hb16 H15 P6 P7;go_wp2_with fail
 refine(QT [98] 0 3 _).mono ?_;rintro e w17 ⟨rfl,hb17⟩;have H17:=jq (H16.out.here hb17);have R6:=jq (Q6.out.here hb17);have R7:=jq (Q7.out.here hb17);clear hb17 H16 Q6 Q7;have hbs:(blF 2 #[(0,.agg (Qb (XH [97] 0 2) Qj)),(1,.agg (Qb (XH [98] 0 3) Qj))]).run Tryz.prog w17=.ok (.slice (some ⟨w17.1.size,0,none⟩) 2 2) (w17.alloc (.cells ((vx awY).flatMap Qt).toArray 44)):=Zax w17 (vx awY) _ (by simp[vx,awY]) (by decide) rfl;have H18:=jq (H17.out.alloc (.cells ((vx awY).flatMap Qt).toArray 44));have HA18:=jq ((Below.refl w17.1.size w17).alloc (Nat.le_refl _) (.cells ((vx awY).flatMap Qt).toArray 44));have HS18:=jq (XZ A6 (some ⟨w17.1.size,0,none⟩) 2 2 c6 2 x6 (vx awY) _ H18.out.pw (R6.out.here HA18.out) (ZaK w17 (vx awY) (Zg2 ZiT)) (by omega) (by omega));rw[decide_eq_true (show x6.map (·.1)=(vx awY).map (·.1) by rw[HX6.out,ZdH])] at HS18;have S6:=jq (R6.out.here HA18.out);have S7:=jq (R7.out.here HA18.out);clear R6 R7 H17;go_wp2_with fail
 refine HS18.out.mono ?_;rintro e w19 ⟨rfl,hb19⟩;have H19:=jq (H18.out.here hb19);have HSZ:=jq (XZ A7 A6 1 1 c7 c6 x7 (x6.take 1) w19 H19.out.pw (S7.out.here hb19) ((S6.out.here hb19).upto (by omega)) (by omega) (by omega));rw[decide_eq_true (show x7.map (·.1)=(x6.take 1).map (·.1) by rw[HX7.out,List.map_take,HX6.out];rfl)] at HSZ;have hc0:1<=c6:=by omega
 clear hb19 hbs H18 HA18 HS18 S6 S7 HX6 HX7;go_wp2_with fail
 refine HSZ.out.mono ?_;rintro e w20 ⟨rfl,hb20⟩;have H20:=jq (H19.out.here hb20);clear hb20 HSZ H19;go_wp2_with fail
 first|go_ret|skip
 exact⟨rfl,H20.out.bl⟩
end
section
attribute [local go_sem] Oper.semAt_some
attribute [local go_sem ↓] Qr QC
theorem ZdI{l:List Fct}(h:VA l=0){d:Int}(h1: -25567<=d)(h2:d<=84005):
 ofV l (l.length:Int)=(VF l,0)/\∃m,m<=(VF l).length/\VB (VF l) d=((VF l).take m,0)/\∀i f,(VF l)[i]?=some f->(f.day<=d↔i<m):=by
 have hok:=ZdD ((Jr l).1 h);obtain⟨m,h3,h4,h5⟩:=Zbw d (VQ l)
 refine⟨?_,m,h3,?_,h5⟩
 ·unfold ofV;rw[if_neg (by simpa using h),if_neg (by omega),Int.toNat_natCast,List.take_length]
 ·rw[ZgW hok d h1 h2,h4]
theorem Zfb(A:Option Addr)(n c:Nat)(xs:List Fx)(d:Int)(w:World)(hp:Env w)(hcap:n<=c)(hnil:A=none->c=0)(hs:Sl Qt 21 w w.1.size A n xs)(hn:n<=maxLen)(hi:∀x∈xs,FxI w x):
 Calls Tryz.prog 5 #[.slice A n c,.int .i64 d] w fun e w'=>e=.returned (.bool true)/\Below w.1.size w w':=by
 have H:=jq (Kp.start hp);have HN:=jq hs.1;have HFI:=jq (ZcC A n c xs w hp hs hi hn);have HAW:=jq (fun W (hp:Env W)=>Zbx W hp);have HOF:=jq (fun(hg:∀x∈xs,GrX x) (h12:n<=12) W (hb:Below w.1.size w W)=>ZaE A n c xs (n:Int) W (hp.here hb) hcap hnil ((XB hs hi hg).here hb) (by omega));have HAE:=jq (show ∀W,Hid (Kp w [] W)->Calls Tryz.prog 12 #[] W fun e w'=>e=.returned (.bool true)/\Below W.1.size W w' from fun W h=>HAW.out W h.out.pw);clear hp hs hi hcap hnil;go_enter Tryz.func5,Tryz.ntmps5
 go_wp2_with fail
 refine HFI.out.mono ?_;rintro e w1 ⟨⟨b,rfl,hP⟩,hb1⟩;have HP:=jq hP;have H1:=jq (H.out.here hb1);clear hP hb1 H HFI
 cases b with
 |false=>
  go_wp2_with fail
  refine(HAE.out _ H1).mono ?_;rintro e w2 ⟨rfl,hb2⟩;go_wp2_with fail
  first|go_ret|skip
  exact⟨rfl,(H1.out.here hb2).bl⟩
 |true=>
 by_cases hd1:d< -25567
 ·go_wp2_with fail
  refine(HAE.out _ H1).mono ?_;rintro e w2 ⟨rfl,hb2⟩;go_wp2_with fail
  first|go_ret|skip
  exact⟨rfl,(H1.out.here hb2).bl⟩
 by_cases hd2:84005<d
 ·go_wp2_with fail
  refine(HAE.out _ H1).mono ?_;rintro e w2 ⟨rfl,hb2⟩;go_wp2_with fail
  first|go_ret|skip
  exact⟨rfl,(H1.out.here hb2).bl⟩
 obtain⟨p1,p2,p3⟩:=HP.out rfl
 obtain⟨q1,m,q2,q3,q4⟩:=ZdI p3 (show-25567<=d by omega) (show d<=84005 by omega)
 rw[List.length_map,<-HN.out] at q1;have HO:=jq (HOF.out p2 p1 _ H1.out.bl);rw[q1] at HO;have HVL:=jq (show(VF (xs.map (·.1))).length<=12 by have:=ZbY (xs.map (·.1));rw[List.length_map] at this;have:=HN.out;omega);have HQ2:=jq q2;have HQ3:=jq q3;have HQ4:=jq q4;clear p1 p2 p3 q1 q2 q3 q4 HP HOF
 dsimp only at HO
 unfold FsPost at HO;generalize VF (xs.map (·.1))=vs at*;go_wp2_with fail
 refine HO.out.mono ?_;rintro e w2 ⟨A1,c1,ys,rfl,hf2,rfl,⟨hc1,hz1,_⟩,hb2⟩;have H2:=jq (H1.out.here hb2);have HF2:=jq hf2;have hyl:=HVL.out;rw[List.length_map] at hyl;have HU:=jq (ZcX A1 ys.length c1 ys d w2 H2.out.pw hf2 (by omega));rw[HQ3.out] at HU
 dsimp only at HU
 unfold FsPost at HU;clear hb2 hf2 H1 HO;go_wp2_with fail
 refine HU.out.mono ?_;rintro e w3 ⟨A2,c2,zs,rfl,hf3,hzs,_,hb3⟩;have H3:=jq (H2.out.here hb3);have HF3:=jq (HF2.out.here hb3);have hq2:=HQ2.out;rw[List.length_map] at hq2;have hzl:zs.length=m:=by have h:=congrArg List.length hzs;rw[List.length_map,List.length_take,List.length_map] at h;omega
 subst hzl;have HSM:=jq (XZ A2 A1 zs.length zs.length c2 c1 zs (ys.take zs.length) w3 H3.out.pw hf3 (HF3.out.upto hq2) (by omega) (by omega));rw[decide_eq_true (show zs.map (·.1)=(ys.take zs.length).map (·.1) by rw[hzs,List.map_take])] at HSM;have hlt1:¬((ys.length:Int)<(zs.length:Int)):=by omega
 have hkc:zs.length<=c1:=by omega
 have hnm:A1=none->zs.length=0:=fun h=>by have:=hz1 h;omega
 clear hb3 hf3 hzs HU HF2 H2 HQ2 HQ3 HVL;go_wp2_with fail
 refine HSM.out.mono ?_;rintro e w4 ⟨rfl,hb4⟩;have H4:=jq (H3.out.here hb4);have HF4:=jq (HF3.out.here hb4);clear hb4 HF3 H3 HSM hlt1 hkc hnm;go_wp2_with fail
 go_loopw [9,10,60] (fun _ _ i wr=>∃k:Nat,k<=ys.length/\i=.int .i64 k/\Hid (Kp w [] wr)/\Hid (Below w4.1.size w4 wr)) (fun _ _ i _=>ys.length-(intOf i).toNat)
 case atStart=>exact⟨0,Nat.zero_le _,rfl,H4,Below.refl _ _⟩
 case round=>
  clear H4;obtain⟨k,hk,rfl,H,HBR⟩:=hrel
  by_cases hlt:k<ys.length
  ·obtain⟨b,off,f,v,rfl,hb,hx,hm,hr⟩:=(HF4.out.here HBR.out).at_ hlt
   have hld:=Ql hr;have hst:=fun cs (hc:cs.size=21)=>Qh wr f v (cs:=cs) hc
   have hiff:=HQ4.out k f (by rw[List.getElem?_map,hx];rfl);have HB:=jq (H.out.new wr.1.size rfl (Qb f v) 44);have HBA:=jq (HBR.out.alloc HBR.out.size (.cells (Qb f v) 44));clear hx hr hb hm;go_upto_region 10 with (fail)
   generalize wr.alloc (.cells (Qb f v) 44)=W1 at*;clear hld hst;generalize wr.1.size=b1 at*;have c3:=HB.out.c 0 3 rfl (show(Qb f v)[3]?=some (.int .i64 f.day) from rfl)
   by_cases hfd:f.day<=d
   ·have hkz:k<zs.length:=hiff.1 hfd;have hkz2:(k:Int)<(zs.length:Int):=by omega
    clear hiff;go_wp2_with fail
    exact⟨⟨k+1,by omega,by go_num,HB.out.bare,HBA.out⟩,by simp[intOf];omega⟩
   ·have hkz:¬k<zs.length:=fun h=>hfd (hiff.2 h)
    have hkz2:¬(k:Int)<(zs.length:Int):=by omega
    clear hiff;go_wp2_with fail
    exact⟨⟨k+1,by omega,by go_num,HB.out.bare,HBA.out⟩,by simp[intOf];omega⟩
  ·obtain rfl:k=ys.length:=by omega
   go_wp2_with fail
   refine(HAE.out _ H).mono ?_;rintro e w5 ⟨rfl,hb5⟩;go_wp2_with fail
   first|go_ret|skip
   exact⟨rfl,(H.out.here hb5).bl⟩
end
end Go.Proofs.YtbcnkcldlealjaaGreatDoor
