/- Va1, Vsl. -/
import Derived.Test.YtbcnkcldlealjaaGreatDoorQGVb42
import Derived.Test.YtbcnkcldlealjaaGreatDoorQGVb32
set_option maxRecDepth 20000
namespace Go.Proofs.YtbcnkcldlealjaaGreatDoor
open Go.Lib renaming hid→jq
open Go.RowKit Go.Shelf
section
attribute [local go_sem] Oper.semAt_some
attribute [local go_sem ↓] Qq QA
theorem ZcO(x:Fct)(u:FaV)(f:Fct)(v:FaV)(bf:Nat)(W:World)(hb:BlkB W bf (Qa f v) 44):
 Calls Tryz.prog 66 (#[.agg (Qa x u)]++#[.pointer (some ⟨bf,0,none⟩)]) W fun e w'=>e=.returned (.bool (x.key==f.key))/\Below W.1.size W w':=by
 have HBL:=jq ((Below.refl W.1.size W).alloc (Nat.le_refl _) (.cells (Qa x u) 44));have c0:(W.alloc (.cells (Qa x u) 44)).cell? ⟨W.1.size,0,none⟩=some (.string ⟨x.key.toArray⟩):=(cell_of_row _ _ 0 _ _ _ (heap_alloc_new W _)).trans rfl;have ck:=(hb.alloc (.cells (Qa x u) 44)).cell 0 (show(Qa f v)[0]?=some (.string ⟨f.key.toArray⟩) from rfl);generalize Qa x u=xb at*;clear hb
 show Calls _ _ #[.agg xb,.pointer (some ⟨bf,0,none⟩)] _ _
 cases hk:(x.key==f.key)
 all_goals
  go_enter Tryz.func66,Tryz.ntmps66
  go_wp2_with fail
  first|go_ret|skip
  exact⟨rfl,HBL.out⟩
theorem Zf7(g0:Nat)(cb:Array Value)(w:World)(eg:∀args w,(callFunc g0 args).run Tryz.prog w=.ok (.enter g0 args) w):
 Calls Tryz.prog 65 #[.slice none 0 0,.func (.func g0) #[] cb] w fun e w'=>e=.returned (.slice none 0 0)/\Below w.1.size w w':=by
 have HIX:=jq (Yy g0 cb (fun _=>false) none 0 0 [] w eg (fun W f v hx=>by cases hx) Fxs.nil (by omega));rw[show VV (fun _=>false) ([]:List Fx)= -1 from rfl] at HIX;go_enter Tryz.func65,Tryz.ntmps65
 go_wp2_with (go_at_call 58;refine(HIX.out).mono ?_;rintro e w' ⟨rfl,hb'⟩)
 first|go_ret|skip
 exact⟨rfl,hb'⟩
theorem Zf8(f:Fct)(v:FaV)(bf:Nat)(A:Option Addr)(n c base:Nat)(xs:List Fx)(w:World)(ho:Own Qt 21 44 w base (.slice A n c) xs)(hm:∀x∈xs,FxM w w.1.size x)(hb:BlkB w bf (Qa f v) 44)(hne:(Value.slice A n c).ownBlock≠some bf)(hn:n<=1000000):
 Calls Tryz.prog 65 #[.slice A n c,.func (.func 66) #[] #[.pointer (some ⟨bf,0,none⟩)]] w fun e w'=>∃zs:List Fx,e=.returned (.slice A zs.length c)/\zs=xs.filter (fun x=> !(x.1.key==f.key))/\Own Qt 21 44 w' base (.slice A zs.length c) zs/\w.grownBy w' (Value.slice A n c).ownBlock:=by
 have eg:∀args w,(callFunc 66 args).run Tryz.prog w=.ok (.enter 66 args) w:=enters_of Tryz.func66 (by kernel_rfl) rfl;obtain⟨hnx,_,_,⟨rfl,rfl,rfl⟩|⟨g,rfl,hg1,hg2⟩⟩:=ho.facts
 ·obtain rfl:n=0:=hnx;refine(Zf7 _ _ w eg).mono ?_;rintro e w' ⟨he,hb'⟩;exact⟨[],he,rfl,ho.below hb',Vy hb' _⟩
 ·exact Zf3 66 _ (fun x=>x.1.key==f.key) g n c base xs w eg (fun W x u _ _ hW=>ZcO x u f v bf W ((hW bf hb.lt (fun e=>hne (by rw[e];rfl))).trans hb)) ho hm hn
theorem Vz(A:Option Addr)(n c:Nat)(xs:List Fx)(w:World)(hnil:A=none->c=0)(hcap:n<=c)(hs:Sl Qt 21 w w.1.size A n xs)(hn:n<=1000000):Calls Tryz.prog 30 #[.slice A n c] w (RetOwn Qt 21 44 w.1.size w xs):=by
 cases A with
 |none=>
  have hc:=hnil rfl;subst hc;obtain rfl:n=0:=by omega
  have hx:xs=[]:=List.eq_nil_of_length_eq_zero hs.1.symm;subst hx;exact ZdJ w
 |some a=>exact ZdI a n c xs w hs hn
theorem Zah(A:Option Addr)(n c i vb base:Nat)(xs:List Fx)(f:Fct)(v:FaV)(w:World)(ho:Own Qt 21 44 w base (.slice A n c) xs)(hv:BlkB w vb (Qa f v) 44)(hne:(Value.slice A n c).ownBlock≠some vb)(hi:i<=n)(hn:n<=1000000)(hbs:base<=w.1.size):
 Calls Tryz.prog 29 #[.slice A n c,.int .i64 i,.slice (some ⟨vb,0,none⟩) 1 1] w (YE base w (n+1) (xs.take i++(f,v)::xs.drop i)):=by
 obtain⟨hnx,hxc,hcm,hA⟩:=ho.facts
 by_cases hin:i=n
 ·subst hin;have h:=ZhY A i c vb base xs (f,v) w ho (ZcK hv) hn hbs;rw[List.take_of_length_le (by omega),List.drop_eq_nil_of_le (by omega)];exact h
 ·rcases hA with ⟨rfl,rfl,rfl⟩|⟨g,rfl,hg1,hg2⟩
  ·exfalso;simp at hnx;omega
  ·by_cases hr:n+1<=c
   ·exact Zf5 g n c i vb base xs (f,v) w ho hv (fun e=>hne (by rw[e];rfl)) (by omega) hr hn hbs
   ·exact Zf6 g n c i vb base xs (f,v) w ho hv (by omega) (by omega) hn hbs
theorem Zfd{f:Fct}:∀{fs:List Fct} {i:Nat},(∀g∈fs,g.key≠f.key)->BsAt fs f i i->VP f fs=fs.take i++f::fs.drop i
 |[],i,_,_=>by simp[VP]
 |g::fs,0,hk,h=>by
  have h1:=h.ge 0 g (Nat.le_refl _) rfl;have h2:JD f g:=(ZcH (hk g (List.mem_cons_self ..))).resolve_left h1;unfold VP;rw[if_pos ((Xi f g).2 h2)];rfl
 |g::fs,i+1,hk,h=>by
  have h1:=h.lt 0 g (by omega) rfl;have h2:¬JD f g:=fun h3=>ZaJ f (XJ h3 h1)
  unfold VP;rw[if_neg (mt (Xi f g).1 h2)];rw[Zfd (fun g hg=>hk g (List.mem_cons_of_mem _ hg)) (show BsAt fs f i i from⟨Nat.le_refl _,by have:=h.len;simp at this;omega,fun q x hq hx=>h.lt (q+1) x (by omega) (by simpa using hx),fun q x hq hx=>h.ge (q+1) x (by omega) (by simpa using hx)⟩)];rfl
end
section
attribute [local go_sem] Oper.semAt_some
attribute [local go_sem ↓] Qq QA
theorem Kp.low{w W W':World}{bs:List (Nat×Array Value×TypeId)}{B:Nat}(h:Kp w bs W)(hb:Below B W W')(hB:w.1.size<=B)(hlt:∀b∈bs,b.1<B):Kp w bs W':=
 ⟨h.pow,h.bl.trans (hb.mono hB),h.own,h.ord,fun b hm=>(hb.block b.1 (hlt b hm)).trans (h.blk b hm)⟩
def slF(x v:Value):Sem Value:=Instr.sliceAt 22 x (some v) none none
theorem Zh1(x v:Value):Instr.sliceAt 22 x (some v) none none=slF x v:=rfl
def ZbL(A:Option Addr)(c k:Nat):Option Addr:=if c=k then A else A.map (·.add (k*21))
theorem ZcP(w:World)(A:Option Addr)(n c k:Nat)(hk:k<=n):(slF (.slice A n c) (.int .i64 (k:Int))).run Tryz.prog w=.ok (.slice (ZbL A c k) (n-k) (c-k)) w:=by
 have hel:Tryz.prog.elem 22=44:=by kernel_rfl
 have hu:Tryz.prog.underlying 22=some (.slice (Tryz.prog.elem 22)):=by rw[hel];exact Tryz.underlying22
 have hsz:((sizeOf (Tryz.prog.elem 22)).run Tryz.prog w)=.ok 21 w:=by
  obtain⟨i0,z0,hu0,hi0,hz0,hs0,_⟩:=QS
  rw[hel];simp[sizeOf,typeInfo,hi0,hs0]
 unfold slF;rw[run_sliceAt_slice (h:=hu),run_slice_l (ht:=hu) (h0:=by omega) (h1:=by omega),hsz];simp only[Result.andThen_ok,sliced,Int.toNat_natCast];rfl
theorem Fxs.cut{w:World}{B n c k:Nat}{A:Option Addr}{xs:List Fx}(h:Fxs w B A n xs)(hk:k<=n)(hc:n<=c):Fxs w B (ZbL A c k) (n-k) (xs.drop k):=by
 have hl:=h.len;refine⟨⟨by rw[List.length_drop,<-hl],fun h0=> ?_⟩,fun x hx=>h.all x (List.mem_of_mem_drop hx)⟩;obtain⟨b,off,rfl,_⟩:=h.sl.2 (by omega)
 unfold ZbL;rw[if_neg (by omega)];have h2:=(h.sl.drop hk).2 h0;rw[Option.map_some,Addr.add_lit];exact h2
theorem Zjj(x:Fct)(u:FaV)(f:Fct)(v:FaV)(bf:Nat)(W:World)(hb:BlkB W bf (Qa f v) 44):
 Calls Tryz.prog 26 (#[.agg (Qa x u)]++#[.pointer (some ⟨bf,0,none⟩)]) W fun e w'=>e=.returned (.bool (x.key==f.key))/\Below W.1.size W w':=by
 have HBL:=jq ((Below.refl W.1.size W).alloc (Nat.le_refl _) (.cells (Qa x u) 44));have c0:(W.alloc (.cells (Qa x u) 44)).cell? ⟨W.1.size,0,none⟩=some (.string ⟨x.key.toArray⟩):=(cell_of_row _ _ 0 _ _ _ (heap_alloc_new W _)).trans rfl;have ck:=(hb.alloc (.cells (Qa x u) 44)).cell 0 (show(Qa f v)[0]?=some (.string ⟨f.key.toArray⟩) from rfl);generalize Qa x u=xb at*;clear hb
 show Calls _ _ #[.agg xb,.pointer (some ⟨bf,0,none⟩)] _ _
 cases hk:(x.key==f.key)
 all_goals
  go_enter Tryz.func26,Tryz.ntmps26
  go_wp2_with fail
  first|go_ret|skip
  exact⟨rfl,HBL.out⟩
theorem Zkc(A:Option Addr)(n c:Nat)(xs:List Fx)(f:Fct)(v:FaV)(bf:Nat)(w:World)(hb:BlkB w bf (Qa f v) 44)(hs:Fxs w w.1.size A n xs)(hn:n<=1000000):
 Calls Tryz.prog 25 #[.slice A n c,.func (.func 26) #[] #[.pointer (some ⟨bf,0,none⟩)]] w fun e w'=>e=.returned (.bool (xs.any fun x=>x.1.key==f.key))/\Below w.1.size w w':=
 Yn 26 #[.pointer (some ⟨bf,0,none⟩)] (fun x=>x.1.key==f.key) A n c xs w (enters_of Tryz.func26 (by kernel_rfl) rfl) (fun W x u _ hW=>Zjj x u f v bf W (hb.here hW)) hs (by omega)
theorem Zjk(x:Fct)(u:FaV)(f:Fct)(v:FaV)(bf:Nat)(W:World)(hb:BlkB W bf (Qa f v) 44):
 Calls Tryz.prog 28 (#[.agg (Qa x u)]++#[.pointer (some ⟨bf,0,none⟩)]) W fun e w'=>e=.returned (.bool (x.key==f.key))/\Below W.1.size W w':=by
 have HBL:=jq ((Below.refl W.1.size W).alloc (Nat.le_refl _) (.cells (Qa x u) 44));have c0:(W.alloc (.cells (Qa x u) 44)).cell? ⟨W.1.size,0,none⟩=some (.string ⟨x.key.toArray⟩):=(cell_of_row _ _ 0 _ _ _ (heap_alloc_new W _)).trans rfl;have ck:=(hb.alloc (.cells (Qa x u) 44)).cell 0 (show(Qa f v)[0]?=some (.string ⟨f.key.toArray⟩) from rfl);generalize Qa x u=xb at*;clear hb
 show Calls _ _ #[.agg xb,.pointer (some ⟨bf,0,none⟩)] _ _
 cases hk:(x.key==f.key)
 all_goals
  go_enter Tryz.func28,Tryz.ntmps28
  go_wp2_with fail
  first|go_ret|skip
  exact⟨rfl,HBL.out⟩
theorem Zkd(A:Option Addr)(n c:Nat)(xs:List Fx)(f:Fct)(v:FaV)(bf:Nat)(w:World)(hb:BlkB w bf (Qa f v) 44)(hs:Fxs w w.1.size A n xs)(hn:n<=1000000):
 Calls Tryz.prog 25 #[.slice A n c,.func (.func 28) #[] #[.pointer (some ⟨bf,0,none⟩)]] w fun e w'=>e=.returned (.bool (xs.any fun x=>x.1.key==f.key))/\Below w.1.size w w':=
 Yn 28 #[.pointer (some ⟨bf,0,none⟩)] (fun x=>x.1.key==f.key) A n c xs w (enters_of Tryz.func28 (by kernel_rfl) rfl) (fun W x u _ hW=>Zjk x u f v bf W (hb.here hW)) hs (by omega)
theorem Zjl(x:Fct)(u:FaV)(f:Fct)(v:FaV)(bf:Nat)(W:World)(hb:BlkB W bf (Qa f v) 44):
 Calls Tryz.prog 39 (#[.agg (Qa x u)]++#[.pointer (some ⟨bf,0,none⟩)]) W fun e w'=>e=.returned (.bool (x.key==f.key))/\Below W.1.size W w':=by
 have HBL:=jq ((Below.refl W.1.size W).alloc (Nat.le_refl _) (.cells (Qa x u) 44));have c0:(W.alloc (.cells (Qa x u) 44)).cell? ⟨W.1.size,0,none⟩=some (.string ⟨x.key.toArray⟩):=(cell_of_row _ _ 0 _ _ _ (heap_alloc_new W _)).trans rfl;have ck:=(hb.alloc (.cells (Qa x u) 44)).cell 0 (show(Qa f v)[0]?=some (.string ⟨f.key.toArray⟩) from rfl);generalize Qa x u=xb at*;clear hb
 show Calls _ _ #[.agg xb,.pointer (some ⟨bf,0,none⟩)] _ _
 cases hk:(x.key==f.key)
 all_goals
  go_enter Tryz.func39,Tryz.ntmps39
  go_wp2_with fail
  first|go_ret|skip
  exact⟨rfl,HBL.out⟩
theorem Zke(A:Option Addr)(n c:Nat)(xs:List Fx)(f:Fct)(v:FaV)(bf:Nat)(w:World)(hb:BlkB w bf (Qa f v) 44)(hs:Fxs w w.1.size A n xs)(hn:n<=1000000):
 Calls Tryz.prog 25 #[.slice A n c,.func (.func 39) #[] #[.pointer (some ⟨bf,0,none⟩)]] w fun e w'=>e=.returned (.bool (xs.any fun x=>x.1.key==f.key))/\Below w.1.size w w':=
 Yn 39 #[.pointer (some ⟨bf,0,none⟩)] (fun x=>x.1.key==f.key) A n c xs w (enters_of Tryz.func39 (by kernel_rfl) rfl) (fun W x u _ hW=>Zjl x u f v bf W (hb.here hW)) hs (by omega)
end
end Go.Proofs.YtbcnkcldlealjaaGreatDoor
