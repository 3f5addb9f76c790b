/- X12. -/
import Derived.Test.YtkddgeclncafoaaGreatDoorQGEn26
import Derived.Test.YtkddgeclncafoaaGreatDoorQGEn33
import Derived.Test.YtkddgeclncafoaaGreatDoorQGEn34
set_option maxRecDepth 100000
set_option maxHeartbeats 4000000
namespace Go.Proofs.YtkddgeclncafoaaGreatDoor
open Go.Lib renaming hid→jq
section
open Go.RowKit Go.Shelf
attribute [local go_sem] Oper.semAt_some
attribute [local go_sem ↓] Go.wp_at_zero Go.wp_at_succ Xz
theorem Zdz(A:Option Addr)(n c:Nat)(ls:List Lot)(f:Fct)(v:FaV)(w:World)(hp:Env w)(hs:YI w w.1.size A n ls)(hl:∀x∈ls,x.Sz 50000)(hq:∀x∈ls,x.q.length<=13)(hn:n<=1002)(hcap:n<=c)
 (hf:f.Sz 1000) (h1:f.ratio.Sz 13) (hm:FaM w w.1.size f v) (hpn:v.pn<=100000) (hon:v.on<=100000):
 Calls Tryz.prog 7 #[.slice A n c,.agg (Qk f v)] w (Jy (Zab ls f) w):=by
 have HPO:=jq (show Jy (Zab ls f) w=fun e w'=>e=.returned (.tuple #[S (Zab ls f).1,Qq (Zab ls f).2.1,.int .i64 (Zab ls f).2.2])/\Below w.1.size w w' from rfl);generalize Jy (Zab ls f) w=post at*;have H:=jq (show Kp w [(w.1.size+1,#[.string ⟨#[]⟩,.string ⟨#[]⟩],26),(w.1.size,Qk f v,30)] ((w.alloc (.cells (Qk f v) 30)).alloc (.cells #[.string ⟨#[]⟩,.string ⟨#[]⟩] 26)) from((Kp.start hp).new w.1.size rfl (Qk f v) 30).new (w.1.size+1) (by simp) _ _);have HZ:=jq (QJ f v);have hls:ls.length<=1002:=by rw[<-hs.1];exact hn
 have HVA:=jq (fun W (hb:Below w.1.size w W)=>Zdd A n c ls f v W (hp.here hb) (hs.here hb) hl (by omega) hcap hf (hm.here hb) hpn hon);have HTO:=jq (fun W (hb:Below w.1.size w W)=>ZhD A n c ls f.inst W (hs.here hb) (by omega) (fun x hx=>(hl x hx).q) (fun x hx=>(hl x hx).c));have htl:(Qa (QZ ls f.inst (fun z=>val z.q))).length<=18:=Vz (g:=(·.q)) (L:=13) (fun x hx=>hq x (List.mem_filter.1 hx).1) (Nat.le_trans (List.length_filter_le _ _) (by omega))
 have HPA:=jq (fun(hv:XF ls f=true) W (hb:Below w.1.size w W)=>(show Calls Tryz.prog 21 #[S (Qa (QZ ls f.inst (fun z=>val z.q))),Qq f.ratio] W (YA (Jk ls f) W) from by
  obtain⟨a1,a2⟩:=Zgt hv
  have hlok:=(ZhT ls).1 a1;have hmok:=(ZgO _).1 a2;have h0:0<=QZ ls f.inst (fun z=>val z.q):=QI (Jm (Zam hlok f.inst)).1;have h:=Zgs (Qa (QZ ls f.inst (fun z=>val z.q))) f.ratio W (hp.here hb) (by omega) (h1.more (by omega))
  have e:Zdy (Qa (QZ ls f.inst (fun z=>val z.q))) f.ratio=(Qa (QW (Jk ls f)),Qd (Jk ls f-((QW (Jk ls f):Int):Rat)),0):=by
   unfold Zdy
   rw[if_neg (by
    rintro(h|h)
    ·rw[Zbs] at h;cases h
    ·exact h hmok.ratio),Qc,if_neg (by
    rintro(h|h)
    ·omega
    ·exact absurd hmok.r0 (Rat.not_lt.2 h))]
   rfl
  rw[e] at h;exact h))
 have HEN:=jq (show Zab ls f=if XF ls f=false then([],⟨[],[]⟩,1) else(Qa (QW (Jk ls f)),Qd (Jk ls f-((QW (Jk ls f):Int):Rat)),0) from rfl);have K5:=jq (show(Qk f v)[5]?=some (.string ⟨f.inst.toArray⟩) from rfl);have K14:=jq (show(Qk f v)[14]?=some (.string ⟨f.ratio.n.toArray⟩) from rfl);have K15:=jq (show(Qk f v)[15]?=some (.string ⟨f.ratio.d.toArray⟩) from rfl);generalize Zab ls f=ep at*;generalize Qk f v=fb at*;generalize XF ls f=vb at*;unfold YA Vc at*
 generalize Qa (QZ ls f.inst (fun z=>val z.q))=tq at*;generalize Qa (QZ ls f.inst (fun z=>val z.c))=tc at*;generalize Qa (QW (Jk ls f))=tf at*;generalize Qd (Jk ls f-((QW (Jk ls f):Int):Rat))=ff at*;clear hp hs hl hq hn hf h1 hm hpn hon hls htl;unfold Qq S at*
 have hl0:=QD (H.out.at_ 1 rfl) HZ.out
 cases vb with
 |false=>
  rw[if_pos rfl] at HEN;go_enter Tryz.func7,Tryz.ntmps7
  go_wp2_with fail
  refine(HVA.out _ H.out.bl).mono ?_;rintro e w1 ⟨rfl,hb1⟩;have H1:=jq (H.out.here hb1);clear hl0 hb1 H;have n0:=H1.out.c 0 0 rfl rfl;have n1:=H1.out.c 0 1 rfl rfl;have f0:=H1.out.f 0 0 rfl;have f1:=H1.out.f 0 1 rfl;have HE:=jq ((H1.out.set 0 0 rfl (.string ⟨#[]⟩)).set 0 1 rfl (.string ⟨#[]⟩));go_wp2_with fail
  have r0:=HE.out.c 0 0 rfl rfl;have r1:=HE.out.c 0 1 rfl rfl;refine bodyPost_ret (v:=.tuple #[.string ⟨#[]⟩,.agg #[.string ⟨#[]⟩,.string ⟨#[]⟩],.int .i64 1]) (by simp[results,Tryz.results7,go_sem,r0,r1]) rfl ?_;rw[HPO.out,HEN.out];exact⟨rfl,HE.out.bl⟩
 |true=>
  rw[if_neg (by decide)] at HEN;have HPP:=jq (HPA.out rfl);clear HPA;go_enter Tryz.func7,Tryz.ntmps7
  go_wp2_with fail
  refine(HVA.out _ H.out.bl).mono ?_;rintro e w1 ⟨rfl,hb1⟩;have H1:=jq (H.out.here hb1);clear hl0 hb1 H;have x5:=H1.out.c 1 5 rfl K5.out;go_wp2_with fail
  refine(HTO.out _ H1.out.bl).mono ?_;rintro e w2 ⟨rfl,hb2⟩;have H2:=jq (H1.out.here hb2);clear x5 hb2 H1;have x14:=H2.out.c 1 14 rfl K14.out;have x15:=H2.out.c 1 15 rfl K15.out;go_wp2_with fail
  refine(HPP.out _ H2.out.bl).mono ?_;rintro e w3 ⟨rfl,hb3⟩;have H3:=jq (H2.out.here hb3);clear x14 x15 hb3 H2;have n0:=H3.out.c 0 0 rfl rfl;have n1:=H3.out.c 0 1 rfl rfl;have f0:=H3.out.f 0 0 rfl;have f1:=H3.out.f 0 1 rfl;have HE:=jq ((H3.out.set 0 0 rfl (.string ⟨ff.n.toArray⟩)).set 0 1 rfl (.string ⟨ff.d.toArray⟩));go_wp2_with fail
  have r0:=HE.out.c 0 0 rfl rfl;have r1:=HE.out.c 0 1 rfl rfl;refine bodyPost_ret (v:=.tuple #[.string ⟨tf.toArray⟩,.agg #[.string ⟨ff.n.toArray⟩,.string ⟨ff.d.toArray⟩],.int .i64 0]) (by simp[results,Tryz.results7,go_sem,r0,r1]) rfl ?_;rw[HPO.out,HEN.out];exact⟨rfl,HE.out.bl⟩
end
end Go.Proofs.YtkddgeclncafoaaGreatDoor
