/- Va1. -/
import Derived.Test.YtbcnkcldlealjaaGreatDoorQGVa40
import Derived.Test.YtbcnkcldlealjaaGreatDoorQGVa41
set_option maxRecDepth 20000
namespace Go.Proofs.YtbcnkcldlealjaaGreatDoor
open Go.Lib renaming hid→jq
section
open Go.RowKit Go.Shelf
attribute [local go_sem] Oper.semAt_some
attribute [local go_sem ↓] Qr QC
theorem Zb4(x:Fct)(u:FaV)(f:Fct)(v:FaV)(bf:Nat)(W:World)(hb:BlkB W bf (Qb f v) 44):
 Calls Tryz.prog 66 (#[.agg (Qb x u)]++#[.pointer (some ⟨bf,0,none⟩)]) W fun e w'=>e=.returned (.bool (x.key==f.key))/\Below W.1.size W w':=by
 have HBL:=jq ((Below.refl W.1.size W).alloc (Nat.le_refl _) (.cells (Qb x u) 44));have c0:(W.alloc (.cells (Qb x u) 44)).cell? ⟨W.1.size,0,none⟩=some (.string ⟨x.key.toArray⟩):=(cell_of_row _ _ 0 _ _ _ (heap_alloc_new W _)).trans rfl;have ck:=(hb.alloc (.cells (Qb x u) 44)).cell 0 (show(Qb f v)[0]?=some (.string ⟨f.key.toArray⟩) from rfl);generalize Qb x u=xb at*;clear hb
 show Calls _ _ #[.agg xb,.pointer (some ⟨bf,0,none⟩)] _ _
 cases hk:(x.key==f.key)
 all_goals
  go_enter Tryz.func66,Tryz.ntmps66
  go_wp2_with fail
  first|go_ret|skip
  exact⟨rfl,HBL.out⟩
theorem Zfg(g0:Nat)(cb:Array Value)(w:World)(eg:∀args w,(callFunc g0 args).run Tryz.prog w=.ok (.enter g0 args) w):
 Calls Tryz.prog 65 #[.slice none 0 0,.func (.func g0) #[] cb] w fun e w'=>e=.returned (.slice none 0 0)/\Below w.1.size w w':=by
 have HIX:=jq (JG g0 cb (fun _=>false) none 0 0 [] w eg (fun W f v hx=>by cases hx) Fxs.nil (by omega));rw[show JI (fun _=>false) ([]:List Fx)= -1 from rfl] at HIX;go_enter Tryz.func65,Tryz.ntmps65
 go_wp2_with (go_at_call 58;refine(HIX.out).mono ?_;rintro e w' ⟨rfl,hb'⟩)
 first|go_ret|skip
 exact⟨rfl,hb'⟩
theorem Zfh(f:Fct)(v:FaV)(bf:Nat)(A:Option Addr)(n c base:Nat)(xs:List Fx)(w:World)(ho:Own Qt 21 44 w base (.slice A n c) xs)(hm:∀x∈xs,FxM w w.1.size x)(hb:BlkB w bf (Qb f v) 44)(hne:(Value.slice A n c).ownBlock≠some bf)(hn:n<=1000000):
 Calls Tryz.prog 65 #[.slice A n c,.func (.func 66) #[] #[.pointer (some ⟨bf,0,none⟩)]] w fun e w'=>∃zs:List Fx,e=.returned (.slice A zs.length c)/\zs=xs.filter (fun x=> !(x.1.key==f.key))/\Own Qt 21 44 w' base (.slice A zs.length c) zs/\w.grownBy w' (Value.slice A n c).ownBlock:=by
 have eg:∀args w,(callFunc 66 args).run Tryz.prog w=.ok (.enter 66 args) w:=enters_of Tryz.func66 (by kernel_rfl) rfl;obtain⟨hnx,_,_,⟨rfl,rfl,rfl⟩|⟨g,rfl,hg1,hg2⟩⟩:=ho.facts
 ·obtain rfl:n=0:=hnx;refine(Zfg _ _ w eg).mono ?_;rintro e w' ⟨he,hb'⟩;exact⟨[],he,rfl,ho.below hb',YZ hb' _⟩
 ·exact Zfc 66 _ (fun x=>x.1.key==f.key) g n c base xs w eg (fun W x u _ _ hW=>Zb4 x u f v bf W ((hW bf hb.lt (fun e=>hne (by rw[e];rfl))).trans hb)) ho hm hn
theorem Zc1(A:Option Addr)(n c:Nat)(xs:List Fx)(w:World)(hnil:A=none->c=0)(hcap:n<=c)(hs:Sl Qt 21 w w.1.size A n xs)(hn:n<=1000000):Calls Tryz.prog 30 #[.slice A n c] w (RetOwn Qt 21 44 w.1.size w xs):=by
 cases A with
 |none=>
  have hc:=hnil rfl;subst hc;obtain rfl:n=0:=by omega
  have hx:xs=[]:=List.eq_nil_of_length_eq_zero hs.1.symm;subst hx;exact Zc0 w
 |some a=>exact ZcZ a n c xs w hs hn
theorem Zfi(A:Option Addr)(n c i vb base:Nat)(xs:List Fx)(f:Fct)(v:FaV)(w:World)(ho:Own Qt 21 44 w base (.slice A n c) xs)(hv:BlkB w vb (Qb f v) 44)(hne:(Value.slice A n c).ownBlock≠some vb)(hi:i<=n)(hn:n<=1000000)(hbs:base<=w.1.size):
 Calls Tryz.prog 29 #[.slice A n c,.int .i64 i,.slice (some ⟨vb,0,none⟩) 1 1] w (Yp base w (n+1) (xs.take i++(f,v)::xs.drop i)):=by
 obtain⟨hnx,hxc,hcm,hA⟩:=ho.facts
 by_cases hin:i=n
 ·subst hin;have h:=Zg8 A i c vb base xs (f,v) w ho (ZdE hv) hn hbs;rw[List.take_of_length_le (by omega),List.drop_eq_nil_of_le (by omega)];exact h
 ·rcases hA with ⟨rfl,rfl,rfl⟩|⟨g,rfl,hg1,hg2⟩
  ·exfalso;simp at hnx;omega
  ·by_cases hr:n+1<=c
   ·exact Zfe g n c i vb base xs (f,v) w ho hv (fun e=>hne (by rw[e];rfl)) (by omega) hr hn hbs
   ·exact Zff g n c i vb base xs (f,v) w ho hv (by omega) (by omega) hn hbs
theorem Zen{f:Fct}:∀{fs:List Fct} {i:Nat},(∀g∈fs,g.key≠f.key)->BsAt fs f i i->Vo f fs=fs.take i++f::fs.drop i
 |[],i,_,_=>by simp[Vo]
 |g::fs,0,hk,h=>by
  have h1:=h.ge 0 g (Nat.le_refl _) rfl;have h2:VE f g:=(ZbX (hk g (List.mem_cons_self ..))).resolve_left h1;unfold Vo;rw[if_pos ((QW f g).2 h2)];rfl
 |g::fs,i+1,hk,h=>by
  have h1:=h.lt 0 g (by omega) rfl;have h2:¬VE f g:=fun h3=>JU f (Xw h3 h1)
  unfold Vo;rw[if_neg (mt (QW f g).1 h2)];rw[Zen (fun g hg=>hk g (List.mem_cons_of_mem _ hg)) (show BsAt fs f i i from⟨Nat.le_refl _,by have:=h.len;simp at this;omega,fun q x hq hx=>h.lt (q+1) x (by omega) (by simpa using hx),fun q x hq hx=>h.ge (q+1) x (by omega) (by simpa using hx)⟩)];rfl
end
end Go.Proofs.YtbcnkcldlealjaaGreatDoor
