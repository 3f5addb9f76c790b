/- Ss3. -/
import Derived.Test.YtlhmkgmojgnaaaaGreatDoorQGX11
import Derived.Test.YtlhmkgmojgnaaaaGreatDoorQGX13
set_option maxRecDepth 100000
set_option maxHeartbeats 4000000
namespace Go.Proofs.YtlhmkgmojgnaaaaGreatDoor
open Go.Lib renaming hid→jq
section
open Go.RowKit Go.Shelf
attribute [local go_sem] Oper.semAt_some
attribute [local go_sem ↓] Go.wp_at_zero Go.wp_at_succ Yq
def LgP(ls:List Lot)(f:Fct)(v:FaV)(e:Ending):Prop:=∃b,e=.returned (.bool b)/\(b=false->Zaw ls=false/\f.Gs/\v.pn<=66/\v.on<=10/\(∀p∈f.picks,p.Sz 30)/\∀o∈f.options,o.Sz 24)
theorem Zci(A:Option Addr)(n c:Nat)(ls:List Lot)(f:Fct)(v:FaV)(w:World)(hp:Env w)(hs:YX w w.1.size A n ls)(hn:n<=9223372036854775807)(hm:FaM w w.1.size f v)(hpn:v.pn<=9223372036854775807)(hon:v.on<=9223372036854775807)
 (hx:∀x∈[f.ratio,f.share,f.price],x.n.length<=maxLen/\x.d.length<=maxLen):
 Calls Tryz.prog 4 #[.slice A n c,.agg (Qm f v)] w fun e w'=>LgP ls f v e/\Below w.1.size w w':=by
 have H:=jq ((Kp.start hp).new w.1.size rfl (Qm f v) 30);have HG:=jq (fun W (hb:Below w.1.size w W)=>ZdI A n c ls W (hs.here hb) hn);have HZ:=jq (fun W (hb:Below w.1.size w W)=>Zch f v W (hp.here hb) (hm.here hb) hpn hon)
 have HL:=jq (show ∀W:World,Calls Tryz.prog 11 #[.slice (some ⟨W.1.size,0,none⟩) 3 3] (W.alloc (.cells #[.string ⟨f.ratio.n.toArray⟩,.string ⟨f.ratio.d.toArray⟩,.string ⟨f.share.n.toArray⟩,.string ⟨f.share.d.toArray⟩,.string ⟨f.price.n.toArray⟩,.string ⟨f.price.d.toArray⟩] 26)) (fun e w'=>e=.returned (.bool (XD f.ratio||XD f.share||XD f.price))/\Below W.1.size W w') from fun W=>by
  have h1:Frs (W.alloc (.cells #[.string ⟨f.ratio.n.toArray⟩,.string ⟨f.ratio.d.toArray⟩,.string ⟨f.share.n.toArray⟩,.string ⟨f.share.d.toArray⟩,.string ⟨f.price.n.toArray⟩,.string ⟨f.price.d.toArray⟩] 26)) (W.1.size+1) (some ⟨W.1.size,0,none⟩) 3 [f.ratio,f.share,f.price]:=Sl.lit W _ 26 [f.ratio,f.share,f.price] rfl Zcg;have hb0:Below W.1.size W (W.alloc (.cells #[.string ⟨f.ratio.n.toArray⟩,.string ⟨f.ratio.d.toArray⟩,.string ⟨f.share.n.toArray⟩,.string ⟨f.share.d.toArray⟩,.string ⟨f.price.n.toArray⟩,.string ⟨f.price.d.toArray⟩] 26)):=Below.alloc (Below.refl _ W) (Nat.le_refl _) _;exact(Zgw _ 3 f.ratio f.share f.price _ (h1.more (by simp)) hx).mono fun e w' ⟨he,hb⟩=>⟨he,hb0.trans (hb.mono hb0.size)⟩)
 have HFB:=jq (QL f v);have K12:=jq (show(Qm f v)[12]?=some (.string ⟨f.price.n.toArray⟩) from rfl);have K13:=jq (show(Qm f v)[13]?=some (.string ⟨f.price.d.toArray⟩) from rfl);have K14:=jq (show(Qm f v)[14]?=some (.string ⟨f.ratio.n.toArray⟩) from rfl);have K15:=jq (show(Qm f v)[15]?=some (.string ⟨f.ratio.d.toArray⟩) from rfl);have K16:=jq (show(Qm f v)[16]?=some (.string ⟨f.share.n.toArray⟩) from rfl);have K17:=jq (show(Qm f v)[17]?=some (.string ⟨f.share.d.toArray⟩) from rfl);obtain⟨post,hpost⟩:∃post:Ending->World->Prop,post=fun e w'=>LgP ls f v e/\Below w.1.size w w':=⟨_,rfl⟩
 rw[<-hpost];have HPO:=jq hpost;clear hpost;obtain⟨g,hg⟩:∃g,g=Zaw ls:=⟨_,rfl⟩
 rw[<-hg] at HG;have HGG:=jq hg;generalize (XD f.ratio||XD f.share||XD f.price)=bb at*;generalize Qm f v=fb at*;clear hp hs hn hm hpn hon hx hg;unfold S at*
 cases g with
 |true=>
  go_enter Tryz.func4,Tryz.ntmps4
  go_wp2_with fail
  refine(HG.out _ H.out.bl).mono ?_;rintro e w1 ⟨rfl,hb1⟩;go_wp2_with fail
  first|go_ret|skip
  rw[HPO.out];exact⟨⟨true,rfl,fun h=>by cases h⟩,(H.out.here hb1).bl⟩
 |false=>
  go_enter Tryz.func4,Tryz.ntmps4
  go_wp2_with fail
  refine(HG.out _ H.out.bl).mono ?_;rintro e w1 ⟨rfl,hb1⟩;have H1:=jq (H.out.here hb1);clear H hb1;have l1:=QN (H1.out.at_ 0 rfl) HFB.out;go_wp2_with fail
  refine(HZ.out _ H1.out.bl).mono ?_;rintro e w2 ⟨⟨b,rfl,hP⟩,hb2⟩;have HP:=jq hP;have H2:=jq (H1.out.here hb2);clear hP hb2 l1 H1
  cases b with
  |true=>
   go_wp2_with fail
   first|go_ret|skip
   rw[HPO.out];exact⟨⟨true,rfl,fun h=>by cases h⟩,H2.out.bl⟩
  |false=>
   have x12:=H2.out.c 0 12 rfl K12.out;have x13:=H2.out.c 0 13 rfl K13.out;have x14:=H2.out.c 0 14 rfl K14.out;have x15:=H2.out.c 0 15 rfl K15.out;have x16:=H2.out.c 0 16 rfl K16.out;have x17:=H2.out.c 0 17 rfl K17.out;have HPP:=jq (HP.out rfl);clear HP;go_wp2_with fail
   refine(HL.out _).mono ?_;rintro e w3 ⟨rfl,hb3⟩;go_wp2_with fail
   first|go_ret|skip
   rw[HPO.out];exact⟨⟨_,rfl,fun _=>⟨HGG.out.symm,HPP.out⟩⟩,(H2.out.here hb3).bl⟩
end
end Go.Proofs.YtlhmkgmojgnaaaaGreatDoor
