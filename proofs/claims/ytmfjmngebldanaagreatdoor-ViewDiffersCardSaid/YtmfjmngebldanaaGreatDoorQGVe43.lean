/- Vw1, Vw2, Vw3, Vz0, Vsp, Vdp. -/
import Derived.Test.YtmfjmngebldanaaGreatDoorQGVe32
import Derived.Lib.SlicesCompact
namespace Go.Proofs.YtmfjmngebldanaaGreatDoor
section
open Go
theorem blt:∀(x y:List UInt8),(Op.bytesLess x y=true)↔x<y
 |[],[]=>by simp[Op.bytesLess]
 |[],_::_=>by simp[Op.bytesLess]
 |_::_,[]=>by simp[Op.bytesLess]
 |a::x,b::y=>by
  have ih:=blt x y;simp only[Op.bytesLess,List.cons_lt_cons_iff,Bool.or_eq_true,Bool.and_eq_true,decide_eq_true_eq,beq_iff_eq,ih]
theorem Ve(x y:List UInt8):x<y\/x=y\/y<x:=by
 rcases Decidable.em (x<y) with h|h
 ·exact .inl h
 ·rcases Decidable.em (y<x) with h2|h2
  ·exact .inr (.inr h2)
  ·exact .inr (.inl (List.le_antisymm (List.not_lt.1 h2) (List.not_lt.1 h)))
theorem Zcb{x y:List UInt8}(h:x<y):¬y<x:=fun h2=>List.lt_irrefl x (List.lt_trans h h2)
theorem ZlG(s t:List UInt8):JZ s t<0↔s<t:=by
 unfold JZ
 by_cases h:s<t
 ·rw[if_pos ((blt s t).2 h)];exact⟨fun _=>h,fun _=>by decide⟩
 ·rw[if_neg (fun e=>h ((blt s t).1 e))]
  split<;>exact⟨fun e=>absurd e (by decide),fun e=>absurd e h⟩
def bef(f g:Fct):Prop:=f.day<g.day\/(f.day=g.day/\(Xe f.kind<Xe g.kind\/(Xe f.kind=Xe g.kind/\f.key<g.key)))
theorem Zg9(a b:Int):Xr a b<0↔a<b:=by unfold Xr;split<;>(try split)<;>omega
theorem ZbH(a b:Int):Xr a b=0↔a=b:=by unfold Xr;split<;>(try split)<;>omega
theorem QY(f g:Fct):QH f g<0↔bef f g:=by
 unfold QH bef;have a1:=Zg9 f.day g.day;have a3:=ZbH f.day g.day;have b1:=Zg9 (Xe f.kind) (Xe g.kind);have b3:=ZbH (Xe f.kind) (Xe g.kind);have c1:=ZlG f.key g.key
 by_cases h:Xr f.day g.day=0
 ·rw[if_neg (by simpa using h)];have hd:=a3.1 h
  by_cases h2:Xr (Xe f.kind) (Xe g.kind)=0
  ·rw[if_neg (by simpa using h2)];have hc:=b3.1 h2;rw[c1]
   constructor
   ·intro hk;exact .inr ⟨hd,.inr ⟨hc,hk⟩⟩
   ·rintro(h4|⟨_,h4|⟨_,h4⟩⟩)
    ·omega
    ·omega
    ·exact h4
  ·rw[if_pos h2,b1];have hc:=mt b3.2 h2
   constructor
   ·intro h4;exact .inr ⟨hd,.inl h4⟩
   ·rintro(h4|⟨_,h4|⟨h4,_⟩⟩)
    ·omega
    ·exact h4
    ·exact absurd h4 hc
 ·rw[if_pos h,a1];have hd:=mt a3.2 h
  constructor
  ·exact .inl
  ·rintro(h4|⟨h4,_⟩)
   ·exact h4
   ·exact absurd h4 hd
theorem ZbI(f:Fct):¬bef f f:=by
 rintro(h|⟨_,h|⟨_,h⟩⟩)
 ·omega
 ·omega
 ·exact List.lt_irrefl _ h
theorem XT{f g h:Fct}(h1:bef f g)(h2:bef g h):bef f h:=by
 unfold bef at*
 rcases h1 with a|⟨a,b|⟨b,c⟩⟩<;>rcases h2 with d|⟨d,e|⟨e,k⟩⟩
 ·exact .inl (by omega)
 ·exact .inl (by omega)
 ·exact .inl (by omega)
 ·exact .inl (by omega)
 ·exact .inr ⟨by omega,.inl (by omega)⟩
 ·exact .inr ⟨by omega,.inl (by omega)⟩
 ·exact .inl (by omega)
 ·exact .inr ⟨by omega,.inl (by omega)⟩
 ·exact .inr ⟨by omega,.inr ⟨by omega,List.lt_trans c k⟩⟩
theorem ZbJ{f g:Fct}(h:f.key≠g.key):bef f g\/bef g f:=by
 unfold bef
 rcases Int.lt_trichotomy f.day g.day with a|a|a
 ·exact .inl (.inl a)
 ·rcases Int.lt_trichotomy (Xe f.kind) (Xe g.kind) with b|b|b
  ·exact .inl (.inr ⟨a,.inl b⟩)
  ·rcases Ve f.key g.key with c|c|c
   ·exact .inl (.inr ⟨a,.inr ⟨b,c⟩⟩)
   ·exact absurd c h
   ·exact .inr (.inr ⟨a.symm,.inr ⟨b.symm,c⟩⟩)
  ·exact .inr (.inr ⟨a.symm,.inl b⟩)
 ·exact .inr (.inl a)
abbrev Srt(l:List Fct):Prop:=l.Pairwise bef
abbrev DK(l:List Fct):Prop:=l.Pairwise fun f g=>f.key≠g.key
theorem Zf4{α:Type}{r:α->α->Prop}(hi:∀x,¬r x x)(ht:∀x y z,r x y->r y z->r x z):∀{a b:List α},a.Pairwise r->b.Pairwise r->(∀x,x∈a↔x∈b)->a=b
 |[],[],_,_,_=>rfl
 |[],y::b,_,_,h=>by have:=(h y).2 (List.mem_cons_self ..);cases this
 |x::a,[],_,_,h=>by have:=(h x).1 (List.mem_cons_self ..);cases this
 |x::a,y::b,h1,h2,h=>by
  rw[List.pairwise_cons] at h1 h2
  have hxy:x=y:=by
   rcases List.mem_cons.1 ((h x).1 (List.mem_cons_self ..)) with e|e
   ·exact e
   ·rcases List.mem_cons.1 ((h y).2 (List.mem_cons_self ..)) with e2|e2
    ·exact e2.symm
    ·exact absurd (ht _ _ _ (h1.1 y e2) (h2.1 x e)) (hi x)
  subst hxy
  congr 1
  refine Zf4 hi ht h1.2 h2.2 fun z=> ?_
  have hz:=h z;rw[List.mem_cons,List.mem_cons] at hz
  constructor
  ·intro hm
   rcases hz.1 (.inr hm) with e|e
   ·subst e;exact absurd (h1.1 z hm) (hi z)
   ·exact e
  ·intro hm
   rcases hz.2 (.inr hm) with e|e
   ·subst e;exact absurd (h2.1 z hm) (hi z)
   ·exact e
theorem Zha{a b:List Fct}(h1:Srt a)(h2:Srt b)(h:∀f,f∈a↔f∈b):a=b:=Zf4 ZbI (fun _ _ _=>XT) h1 h2 h
theorem YU(f g:Fct):∀l,g∈Vr f l↔g=f\/g∈l
 |[]=>by simp[Vr]
 |h::l=>by
  unfold Vr
  split
  ·simp
  ·rw[List.mem_cons,YU f g l,List.mem_cons]
   constructor
   ·rintro(h1|h1|h1)
    ·exact .inr (.inl h1)
    ·exact .inl h1
    ·exact .inr (.inr h1)
   ·rintro(h1|h1|h1)
    ·exact .inr (.inl h1)
    ·exact .inl h1
    ·exact .inr (.inr h1)
theorem Zcc(f:Fct):∀{l:List Fct},Srt l->(∀g∈l,g.key≠f.key)->Srt (Vr f l)
 |[],_,_=>by simp[Vr,Srt]
 |h::l,hs,hk=>by
  rw[Srt,List.pairwise_cons] at hs;unfold Vr
  by_cases e:QH f h<0
  ·rw[if_pos e];have hb:=(QY f h).1 e;refine List.pairwise_cons.2 ⟨fun g hg=> ?_,List.pairwise_cons.2 hs⟩
   rcases List.mem_cons.1 hg with rfl|hg
   ·exact hb
   ·exact XT hb (hs.1 g hg)
  ·rw[if_neg e];refine List.pairwise_cons.2 ⟨fun g hg=> ?_,Zcc f hs.2 fun g hg=>hk g (List.mem_cons_of_mem _ hg)⟩
   rcases(YU f g l).1 hg with rfl|hg
   ·rcases ZbJ (hk h (List.mem_cons_self ..)) with h1|h1
    ·exact h1
    ·exact absurd ((QY _ _).2 h1) e
   ·exact hs.1 g hg
theorem JB(g:Fct):∀l,g∈JN l↔g∈l
 |[]=>by simp[JN]
 |f::l=>by unfold JN;rw[YU,JB g l,List.mem_cons]
theorem Za4:∀{l:List Fct},DK l->Srt (JN l)
 |[],_=>by simp[JN,Srt]
 |f::l,h=>by
  rw[DK,List.pairwise_cons] at h;exact Zcc f (Za4 h.2) fun g hg=>(h.1 g ((JB g l).1 hg)).symm
theorem ZeS(f:Fct):∀l,(Vr f l).length=l.length+1
 |[]=>rfl
 |g::l=>by unfold Vr;split<;>simp[ZeS f l]
theorem Zdj:∀l,(JN l).length=l.length
 |[]=>rfl
 |f::l=>by unfold JN;rw[ZeS,Zdj l];rfl
theorem ZjK{l:List Fct}(h:DK l){f g:Fct}(hf:f∈l)(hg:g∈l)(e:f.key=g.key):f=g:=by
 induction l with
 |nil=>cases hf
 |cons x l ih=>
  rw[DK,List.pairwise_cons] at h
  rcases List.mem_cons.1 hf with hf1|hf1<;>rcases List.mem_cons.1 hg with hg1|hg1
  ·rw[hf1,hg1]
  ·rw[hf1] at e;exact absurd e (h.1 g hg1)
  ·rw[hg1] at e;exact absurd e.symm (h.1 f hf1)
  ·exact ih h.2 hf1 hg1
section
theorem JC(f:Fct):∀(l:List Fct) (seen:List (List UInt8)),f∈Xx seen l↔f.key ∉ seen/\l.find? (fun x=>x.key==f.key)=some f
 |[],seen=>by simp[Xx]
 |g::l,seen=>by
  unfold Xx
  by_cases h:seen.contains g.key=true
  ·rw[if_pos h,JC f l seen];have hg:g.key∈seen:=by simpa using h
   by_cases e:g.key=f.key
   ·rw[e] at hg;exact⟨fun h=>absurd hg h.1,fun h=>absurd hg h.1⟩
   ·rw[List.find?_cons_of_neg (by simpa using e)]
  ·rw[if_neg h,List.mem_cons,JC f l (g.key::seen)];have hg:g.key ∉ seen:=by simpa using h
   by_cases e:g.key=f.key
   ·rw[List.find?_cons_of_pos (by simpa using e)]
    constructor
    ·rintro(rfl|⟨h1,_⟩)
     ·exact⟨hg,rfl⟩
     ·exact absurd (by rw[e];exact List.mem_cons_self ..) h1
    ·rintro⟨_,h2⟩;exact .inl (Option.some.inj h2).symm
   ·rw[List.find?_cons_of_neg (by simpa using e)]
    constructor
    ·rintro(rfl|⟨h1,h2⟩)
     ·exact absurd rfl e
     ·exact⟨fun h=>h1 (List.mem_cons_of_mem _ h),h2⟩
    ·rintro⟨h1,h2⟩;refine .inr ⟨fun h=> ?_,h2⟩
     rcases List.mem_cons.1 h with h|h
     ·exact e h.symm
     ·exact h1 h
theorem Zcd:∀(l:List Fct) (seen:List (List UInt8)),DK (Xx seen l)
 |[],_=>List.Pairwise.nil
 |g::l,seen=>by
  unfold Xx
  split
  ·exact Zcd l seen
  ·refine List.pairwise_cons.2 ⟨fun f hf e=> ?_,Zcd l _⟩;exact((JC f l _).1 hf).1 (by rw[e];exact List.mem_cons_self ..)
end
theorem VH(f:Fct):∀(l:List Fct) (seen:List (List UInt8)),Xx seen (l++[f])=Xx seen l++if f.key∈seen\/f.key∈l.map (·.key) then[] else[f]
 |[],seen=>by
  simp only[List.nil_append,List.map_nil,List.not_mem_nil,or_false,Xx]
  by_cases h:f.key∈seen
  ·rw[if_pos (by simpa using h),if_pos h]
  ·rw[if_neg (by simpa using h),if_neg h]
 |g::l,seen=>by
  simp only[List.cons_append,Xx]
  by_cases h:seen.contains g.key=true
  ·rw[if_pos h,if_pos h,VH f l seen];have hg:g.key∈seen:=by simpa using h
   congr 1
   by_cases e:f.key=g.key
   ·rw[if_pos (.inl (e▸hg)),if_pos (.inl (e▸hg))]
   ·simp[e]
  ·rw[if_neg h,if_neg h,VH f l (g.key::seen),List.cons_append]
   congr 2
   by_cases e:f.key=g.key<;>simp[e]
theorem Zdk(f:Fct)(l:List Fct):f∈Jb l↔QX l f.key=some f:=by unfold Jb QX;rw[JC];simp
theorem ZjL(l:List Fct):DK (Jb l):=Zcd _ _
theorem Zdl{l:List Fct}{k:List UInt8}{f:Fct}(h:QX l k=some f):f.key=k:=by
 have:=List.find?_some h
 simpa using this
theorem Za5{l:List Fct}{k:List UInt8}{f:Fct}(h:QX l k=some f):f∈l:=by
 have:=List.mem_of_find?_eq_some h
 simpa using this
theorem Zab{l:List Fct}{k:List UInt8}:QX l k=none↔∀f∈l,f.key≠k:=by
 unfold QX;rw[List.find?_eq_none];simp
theorem Zf5{l:List Fct}{f:Fct}(h:f∈l):∃g,QX l f.key=some g:=by
 cases e:QX l f.key with
 |none=>exact absurd rfl (Zab.1 e f h)
 |some g=>exact⟨g,rfl⟩
theorem Zce{l:List Fct}(h:DK l){f:Fct}(hf:f∈l):QX l f.key=some f:=by
 obtain⟨g,hg⟩:=Zf5 hf
 rw[hg,ZjK h (Za5 hg) hf (Zdl hg)]
theorem ZlH(g:Fct)(l:List Fct):g∈vwL l↔∃f,QX l g.key=some f/\f.cancelled=false/\g=Xk f:=by
 unfold vwL;rw[JB,List.mem_map]
 constructor
 ·rintro⟨f,hf,rfl⟩;rw[List.mem_filter,Zdk] at hf;exact⟨f,hf.1,by simpa using hf.2,rfl⟩
 ·rintro⟨f,h1,h2,rfl⟩;refine⟨f,List.mem_filter.2 ⟨(Zdk f l).2 h1,by simp[h2]⟩,rfl⟩
theorem Zhb(l:List Fct):DK (((Jb l).filter fun f=> !f.cancelled).map Xk):=by
 refine List.Pairwise.map _ (fun a b h=> ?_) ((ZjL l).sublist List.filter_sublist);exact h
theorem ZlI(l:List Fct):Srt (vwL l):=Za4 (Zhb l)
theorem ZlJ(l:List Fct):(vwL l).length<=l.length:=by
 unfold vwL;rw[Zdj,List.length_map];refine Nat.le_trans (List.length_filter_le _ _) ?_;unfold Jb
 have:∀(l:List Fct) seen,(Xx seen l).length<=l.length:=by
  intro l
  induction l with
  |nil=>intro _;simp[Xx]
  |cons f l ih=>intro seen;unfold Xx;split<;>simp<;>first|exact Nat.le_succ_of_le (ih _)|exact ih _
 have h:=this l.reverse [];rw[List.length_reverse] at h;exact h
end
section
open Go
theorem Zks(f:Fct)(r:KRow)(i:Nat):Qy (Xk f) r i=Qy f r i:=rfl
theorem Zkt(f:Fct)(i:Nat):(Xk f).none i=f.none i:=rfl
theorem Zdx(f:Fct)(r:KRow):∀(n i:Nat),YA (Xk f) r i n=YA f r i n
 |0,_=>rfl
 |n+1,i=>by unfold YA;rw[Zks,Zkt,Zdx f r n (i+1)]
theorem Zl3{f:Fct}(h:Qt f=0)(hc:f.cancelled=false):Qt (Xk f)=0:=by
 unfold Qt at*
 rw[show(Xk f).key=f.key from rfl,show(Xk f).stamp=0 from rfl,show(Xk f).cancelled=f.cancelled from rfl,show(Xk f).day=f.day from rfl,show(Xk f).kind=f.kind from rfl]
 by_cases h1:Qr f.key=false
 ·rw[if_pos h1] at h;cases h
 rw[if_neg h1] at h ⊢
 by_cases h2:f.stamp<0
 ·rw[if_pos h2] at h;cases h
 rw[if_neg h2] at h;rw[if_neg (by decide)];rw[if_neg (by rw[hc];decide)] at h ⊢
 by_cases h3:f.day< -25567\/84005<f.day
 ·rw[if_pos h3] at h;cases h
 rw[if_neg h3] at h ⊢
 cases hk:QE f.kind with
 |none=>rw[hk] at h;cases h
 |some r=>rw[hk] at h;exact(Zdx f r 13 0).trans h
structure LogOk (l:List Fct):Prop where
 len:l.length<=1000
 chk:∀f∈l,Qt f=0
 ord:l.Pairwise fun f g=>f.stamp<=g.stamp
theorem LogOk.sub{l m:List Fct}(h:LogOk l)(hs:m.Sublist l):LogOk m:=⟨Nat.le_trans hs.length_le h.len,fun f hf=>h.chk f (hs.subset hf),h.ord.sublist hs⟩
theorem LogOk.take{l:List Fct}(h:LogOk l)(k:Nat):LogOk (l.take k):=h.sub (List.take_sublist k l)
structure VwOk (v:List Fct):Prop where
 len:v.length<=1000
 chk:∀f∈v,Qt f=0/\f.cancelled=false/\f.stamp=0
 dk:DK v
 srt:Srt v
theorem Zdy:∀(fs pre:List Fct),DK pre->Srt pre->(Zay pre fs=0↔(∀f∈fs,Qt f=0/\f.cancelled=false/\f.stamp=0)/\DK (pre++fs)/\Srt (pre++fs))
 |[],pre,hd,hs=>by rw[List.append_nil];exact⟨fun _=>⟨fun f h=>(by cases h),hd,hs⟩,fun _=>rfl⟩
 |f::fs,pre,hd,hs=>by
  unfold Zay
  have bad:∀(z:Int),z≠0->¬((∀g∈f::fs,Qt g=0/\g.cancelled=false/\g.stamp=0)/\DK (pre++f::fs)/\Srt (pre++f::fs))->(z=0↔((∀g∈f::fs,Qt g=0/\g.cancelled=false/\g.stamp=0)/\DK (pre++f::fs)/\Srt (pre++f::fs))):=
   fun z hz hn=>⟨fun h=>absurd h hz,fun h=>absurd h hn⟩
  by_cases h1:Qt f=0
  ·rw[if_neg (by simpa using h1)]
   by_cases h2:f.cancelled=true
   ·rw[if_pos h2]
    exact bad 19 (by decide) fun h=>by have:=(h.1 f (List.mem_cons_self ..)).2.1;rw[h2] at this;cases this
   rw[if_neg h2]
   by_cases h3:f.stamp=0
   ·rw[if_neg (by simpa using h3)]
    by_cases h4:(pre.any fun g=>g.key==f.key)=true
    ·rw[if_pos h4];refine bad 5 (by decide) fun h=> ?_
     obtain⟨g,hg,e⟩:=List.any_eq_true.1 h4
     exact(List.pairwise_append.1 h.2.1).2.2 g hg f (List.mem_cons_self ..) (by simpa using e)
    ·rw[if_neg h4]
     by_cases h5:Zbj pre.getLast? f=true
     ·rw[if_pos h5];refine bad 8 (by decide) fun h=> ?_
      cases hg:pre.getLast? with
      |none=>rw[hg] at h5;cases h5
      |some g=>
       rw[hg] at h5;have hb:=(List.pairwise_append.1 h.2.2).2.2 g (List.mem_of_getLast? hg) f (List.mem_cons_self ..);have:=(QY g f).2 hb
       simp[Zbj] at h5;omega
     ·rw[if_neg h5];have hk:∀g∈pre,g.key≠f.key:=fun g hg e=>h4 (List.any_eq_true.2 ⟨g,hg,by simpa using e⟩)
      have hd2:DK (pre++[f]):=List.pairwise_append.2 ⟨hd,List.pairwise_singleton ..,fun g hg x hx=>by rw[List.mem_singleton.1 hx];exact hk g hg⟩
      have hs2:Srt (pre++[f]):=by
       refine List.pairwise_append.2 ⟨hs,List.pairwise_singleton ..,fun g hg x hx=> ?_⟩;rw[List.mem_singleton.1 hx]
       cases hl:pre.getLast? with
       |none=>rw[List.getLast?_eq_none_iff] at hl;subst hl;cases hg
       |some y=>
        rw[hl] at h5;have hyf:bef y f:=(QY y f).1 (by simp[Zbj] at h5;omega);obtain⟨ys,rfl⟩:=List.getLast?_eq_some_iff.1 hl
        rcases List.mem_append.1 hg with hg|hg
        ·exact XT ((List.pairwise_append.1 hs).2.2 g hg y (List.mem_cons_self ..)) hyf
        ·rw[List.mem_singleton.1 hg];exact hyf
      rw[Zdy fs (pre++[f]) hd2 hs2,List.append_assoc,List.singleton_append]
      constructor
      ·rintro⟨a,b,c⟩;refine⟨fun g hg=> ?_,b,c⟩
       rcases List.mem_cons.1 hg with rfl|hg
       ·exact⟨h1,by simpa using h2,h3⟩
       ·exact a g hg
      ·rintro⟨a,b,c⟩;exact⟨fun g hg=>a g (List.mem_cons_of_mem _ hg),b,c⟩
   ·rw[if_pos h3];exact bad 1 (by decide) fun h=>h3 (h.1 f (List.mem_cons_self ..)).2.2
  ·rw[if_pos h1];exact bad _ h1 fun h=>h1 (h.1 f (List.mem_cons_self ..)).1
theorem Vu(v:List Fct):Xh v=0↔VwOk v:=by
 unfold Xh
 by_cases h:1000<v.length
 ·rw[if_pos h];exact⟨fun h=>(by cases h),fun h2=>by have:=h2.len;omega⟩
 ·rw[if_neg h,Zdy v [] List.Pairwise.nil List.Pairwise.nil];exact⟨fun⟨a,b,c⟩=>⟨by omega,a,b,c⟩,fun h2=>⟨h2.chk,h2.dk,h2.srt⟩⟩
theorem Vv{l:List Fct}{k:Nat}{f:Fct}(h:l[k]?=some f):l.take (k+1)=l.take k++[f]:=by
 obtain⟨hk,rfl⟩:=List.getElem?_eq_some_iff.1 h
 rw[List.take_succ_eq_append_getElem hk]
end
section
open Go
def Zc0:List Fct->List Fct
 |[]=>[]
 |f::fs=>if(fs.any fun g=>g.key==f.key)=true then Zc0 fs else f::Zc0 fs
theorem Zcp:∀l,(Zc0 l).Sublist l
 |[]=>List.Sublist.slnil
 |f::fs=>by
  unfold Zc0
  split
  ·exact(Zcp fs).cons _
  ·exact(Zcp fs).cons_cons _
theorem Zad(f:Fct)(l:List Fct)(k:List UInt8):QX (f::l) k=match QX l k with
 |some g=>some g
 |none=>if f.key=k then some f else none:=by
 unfold QX;rw[List.reverse_cons,List.find?_append]
 cases l.reverse.find? (fun f=>f.key==k) with
 |some g=>rfl
 |none=>
  rw[Option.none_or]
  by_cases e:f.key=k
  ·rw[List.find?_cons_of_pos (by simpa using e),if_pos e]
  ·rw[List.find?_cons_of_neg (by simpa using e),if_neg e];rfl
theorem Zae(k:List UInt8):∀l,QX (Zc0 l) k=QX l k
 |[]=>rfl
 |f::fs=>by
  have ih:=Zae k fs;unfold Zc0
  by_cases h:(fs.any fun g=>g.key==f.key)=true
  ·rw[if_pos h,ih,Zad]
   cases e:QX fs k with
   |some g=>rfl
   |none=>
    obtain⟨g,hg,e2⟩:=List.any_eq_true.1 h
    have h1:=Zab.1 e g hg;have h2:g.key=f.key:=by simpa using e2
    rw[if_neg (fun e3=>h1 (h2.trans e3))]
  ·rw[if_neg h,Zad,Zad,ih]
theorem ZaJ(s t:List UInt8):∀l,t∈Zby s l↔t=s\/t∈l
 |[]=>by simp[Zby]
 |x::l=>by
  unfold Zby
  by_cases h1:Op.bytesLess s x=true
  ·rw[if_pos h1];simp
  ·rw[if_neg h1]
   by_cases h2:Op.bytesLess x s=true
   ·rw[if_pos h2,List.mem_cons,ZaJ s t l,List.mem_cons]
    constructor
    ·rintro(h|h|h)
     ·exact .inr (.inl h)
     ·exact .inl h
     ·exact .inr (.inr h)
    ·rintro(h|h|h)
     ·exact .inr (.inl h)
     ·exact .inl h
     ·exact .inr (.inr h)
   ·rw[if_neg h2]
    have hsx:s=x:=by
     rcases Ve s x with h|h|h
     ·exact absurd ((blt s x).2 h) h1
     ·exact h
     ·exact absurd ((blt x s).2 h) h2
    subst hsx
    constructor
    ·intro h;exact .inr h
    ·rintro(rfl|h)
     ·exact List.mem_cons_self ..
     ·exact h
theorem Zfa(t:List UInt8):∀l,t∈Jc l↔t∈l
 |[]=>by simp[Jc]
 |s::l=>by unfold Jc;rw[ZaJ,Zfa t l,List.mem_cons]
theorem Zcq(s:List UInt8):∀{l:List (List UInt8)},l.Pairwise (·< ·)->(Zby s l).Pairwise (·< ·)
 |[],_=>by simp[Zby]
 |x::l,h=>by
  rw[List.pairwise_cons] at h;unfold Zby
  by_cases h1:Op.bytesLess s x=true
  ·rw[if_pos h1];have h1:=(blt s x).1 h1;refine List.pairwise_cons.2 ⟨fun g hg=> ?_,List.pairwise_cons.2 h⟩
   rcases List.mem_cons.1 hg with rfl|hg
   ·exact h1
   ·exact List.lt_trans h1 (h.1 g hg)
  ·rw[if_neg h1]
   by_cases h2:Op.bytesLess x s=true
   ·rw[if_pos h2];refine List.pairwise_cons.2 ⟨fun g hg=> ?_,Zcq s h.2⟩
    rcases(ZaJ s g l).1 hg with rfl|hg
    ·exact(blt _ _).1 h2
    ·exact h.1 g hg
   ·rw[if_neg h2];exact List.pairwise_cons.2 h
theorem Zfb:∀(l:List (List UInt8)),(Jc l).Pairwise (·< ·)
 |[]=>List.Pairwise.nil
 |s::l=>Zcq s (Zfb l)
theorem Zfc{a b:List (List UInt8)}(h:b.Pairwise (·< ·))(hm:∀k,k∈b↔k∈a):b=Jc a:=
 Zf4 (fun x=>List.lt_irrefl x) (fun _ _ _=>List.lt_trans) h (Zfb a) fun k=>by rw[hm,Zfa]
section
variable {a b:List Fct}
theorem Zdz(ha:DK a)(f:Fct):f∈a↔QX a f.key=some f:=⟨Zce ha,Za5⟩
end
end
section
open Go
def Zcr(v:List Fct)(f:Fct):Nat:=(v.takeWhile fun x=>decide (QH x f<0)).length
def Jm(v:List Fct)(f:Fct):List Fct:=v.take (Zcr v (Xk f))++Xk f::v.drop (Zcr v (Xk f))
theorem Zgf{f:Fct}:∀{v:List Fct} {k:Nat},k<=v.length->(∀x∈v.take k,QH x f<0)->(∀x,v[k]?=some x->¬QH x f<0)->Zcr v f=k
 |[],k,hk,_,_=>by simp at hk;subst hk;rfl
 |g::v,0,_,_,h=>by
  have h1:=h g rfl;unfold Zcr;rw[List.takeWhile_cons,if_neg (by simpa using h1)];rfl
 |g::v,k+1,hk,h1,h2=>by
  have h3:=h1 g (by simp);have ih:=Zgf (f:=f) (v:=v) (k:=k) (by simpa using hk) (fun x hx=>h1 x (by rw[List.take_succ_cons];exact List.mem_cons_of_mem _ hx)) (fun x hx=>h2 x (by simpa using hx));unfold Zcr at ih ⊢;rw[List.takeWhile_cons,if_pos (by simpa using h3),List.length_cons,ih]
theorem Zhm{f:Fct}:∀{v:List Fct},(∀x∈v,x.key≠f.key)->v.take (Zcr v f)++f::v.drop (Zcr v f)=Vr f v
 |[],_=>rfl
 |g::v,hk=>by
  have hg:=hk g (List.mem_cons_self ..);have ih:=Zhm (f:=f) (v:=v) fun x hx=>hk x (List.mem_cons_of_mem _ hx)
  unfold Zcr at ih ⊢;unfold Vr;rw[List.takeWhile_cons]
  by_cases h:QH g f<0
  ·have hb:bef g f:=(QY g f).1 h;have hn:¬QH f g<0:=fun h2=>ZbI g (XT hb ((QY f g).1 h2))
   rw[if_pos (by simpa using h),if_neg hn,List.length_cons,List.take_succ_cons,List.drop_succ_cons,List.cons_append,ih]
  ·have hb:bef f g:=(ZbJ hg).resolve_left fun h2=>h ((QY g f).2 h2)
   rw[if_neg (by simpa using h),if_pos ((QY f g).2 hb)];rfl
theorem Zfd{f:Fct}{v:List Fct}(h:∀x∈v,x.key≠f.key):Jm v f=Vr (Xk f) v:=Zhm (f:=Xk f) h
def Zbp(v:List Fct)(f:Fct):List Fct:=if f.cancelled=true then v.filter (fun x=>x.key !=f.key) else Jm (v.filter fun x=>x.key !=f.key) f
theorem Zku(v:List Fct)(f:Fct):Zbp v f=Zaz v f:=by
 unfold Zbp Zaz;rw[Zfd fun x hx=>by simpa using(List.mem_filter.1 hx).2]
def knR(v:List Fct):List Fct->List Fct
 |[]=>v
 |f::fs=>if((fs.any fun g=>g.key==f.key)||f.cancelled)=true then knR v fs else knR (Jm v f) fs
theorem ZaK:∀(l v:List Fct),Srt v->(∀g∈v,∀f∈l,g.key≠f.key)->Srt (knR v l)/\∀g,g∈knR v l↔g∈v\/∃f∈Zc0 l,f.cancelled=false/\g=Xk f
 |[],v,hs,_=>⟨hs,fun g=>⟨.inl,fun h=>h.elim id (fun⟨f,hf,_⟩=>by cases hf)⟩⟩
 |f::fs,v,hs,hk=>by
  have hk2:∀g∈v,∀x∈fs,g.key≠x.key:=fun g hg x hx=>hk g hg x (List.mem_cons_of_mem _ hx)
  unfold knR Zc0
  by_cases ha:(fs.any fun g=>g.key==f.key)=true
  ·rw[if_pos ha,if_pos (by rw[ha];rfl)];exact ZaK fs v hs hk2
  ·rw[if_neg ha];have hf:(fs.any fun g=>g.key==f.key)=false:=by simpa using ha
   cases hc:f.cancelled with
   |true=>
    rw[if_pos (by rw[Bool.or_true])];obtain⟨h1,h2⟩:=ZaK fs v hs hk2
    refine⟨h1,fun g=>(h2 g).trans ⟨?_,?_⟩⟩
    ·rintro(h|⟨x,hx,h⟩)
     ·exact .inl h
     ·exact .inr ⟨x,List.mem_cons_of_mem _ hx,h⟩
    ·rintro(h|⟨x,hx,h3,h4⟩)
     ·exact .inl h
     ·rcases List.mem_cons.1 hx with rfl|hx
      ·rw[hc] at h3;cases h3
      ·exact .inr ⟨x,hx,h3,h4⟩
   |false=>
    rw[if_neg (by rw[hf];decide),Zfd fun x hx=>hk x hx f (List.mem_cons_self ..)]
    have hne:∀x∈fs,f.key≠x.key:=fun x hx e=>by
     rw[List.any_eq_false] at hf;exact hf x hx (by rw[e];exact beq_self_eq_true _)
    obtain⟨h1,h2⟩:=ZaK fs (Vr (Xk f) v) (Zcc _ hs fun g hg=>hk g hg f (List.mem_cons_self ..)) (fun g hg x hx=>by
     rcases(YU _ _ _).1 hg with rfl|hg
     ·exact hne x hx
     ·exact hk2 g hg x hx)
    refine⟨h1,fun g=>(h2 g).trans ⟨?_,?_⟩⟩
    ·rintro(h|⟨x,hx,h⟩)
     ·rcases(YU _ _ _).1 h with rfl|h
      ·exact .inr ⟨f,List.mem_cons_self ..,hc,rfl⟩
      ·exact .inl h
     ·exact .inr ⟨x,List.mem_cons_of_mem _ hx,h⟩
    ·rintro(h|⟨x,hx,h3,h4⟩)
     ·exact .inl ((YU _ _ _).2 (.inr h))
     ·rcases List.mem_cons.1 hx with rfl|hx
      ·exact .inl ((YU _ _ _).2 (.inl h4))
      ·exact .inr ⟨x,hx,h3,h4⟩
theorem ZbL:∀l,DK (Zc0 l)
 |[]=>.nil
 |f::fs=>by
  unfold Zc0
  split
  ·exact ZbL fs
  ·rename_i h
   rw[DK,List.pairwise_cons];refine⟨fun g hg e=>h ?_,ZbL fs⟩;rw[List.any_eq_true];exact⟨g,(Zcp fs).mem hg,by rw[e];exact beq_self_eq_true _⟩
theorem Zna(l:List Fct):knR [] l=vwL l:=by
 obtain⟨h1,h2⟩:=ZaK l [] .nil fun g hg=>by cases hg
 refine Zha h1 (ZlI l) fun g=>(h2 g).trans ((ZlH g l).trans ?_).symm
 constructor
 ·rintro⟨f,h3,h4,rfl⟩;refine .inr ⟨f,(Zdz (ZbL l) f).2 ?_,h4,rfl⟩;rw[Zae];exact h3
 ·rintro(h|⟨f,h3,h4,rfl⟩)
  ·cases h
  ·refine⟨f,?_,h4,rfl⟩;have h5:=(Zdz (ZbL l) f).1 h3;rw[Zae] at h5;exact h5
def ofR(l:List Fct)(k:Int):List Fct×Int:=if Zbx l≠0 then([],1) else if k<0\/(l.length:Int)<k then([],2) else(knR [] (l.take k.toNat),0)
theorem Znb(l:List Fct)(k:Int):ofR l k=ofV l k:=by
 unfold ofR ofV;rw[Zna]
def QA(v:List Fct)(key:List UInt8):Option Fct:=v.find? fun f=>f.key==key
theorem Zcs{v:List Fct}(h:DK v)(key:List UInt8):QA v key=QX v key:=by
 cases e:QX v key with
 |none=>
  unfold QA;rw[List.find?_eq_none];intro f hf hk;exact Zab.1 e f hf (by simpa using hk)
 |some f=>
  have hf:=Za5 e;have hk:=Zdl e
  cases e2:QA v key with
  |none=>
   unfold QA at e2;rw[List.find?_eq_none] at e2;exact absurd (by simpa using hk) (e2 f hf)
  |some g=>
   have hg:g∈v:=List.mem_of_find?_eq_some e2;have hgk:g.key=key:=by simpa using List.find?_some e2
   rw[ZjK h hg hf (hgk.trans hk.symm)]
theorem ZdA{a b:List Fct}(ha:DK a)(hb:DK b)(key:List UInt8):decide (QA a key≠QA b key)=decide (QX a key≠QX b key):=by rw[Zcs ha,Zcs hb]
theorem Zbr{a b:List Fct}(ha:DK a)(hb:DK b):(a++b).filter (fun f=>decide (QA a f.key≠QA b f.key))=QW a b++QW b a:=by
 rw[List.filter_append];unfold QW
 congr 1
 ·refine List.filter_congr fun f hf=> ?_
  rw[ZdA ha hb,Zce ha hf,decide_eq_decide];exact⟨fun h e=>h e.symm,fun h e=>h e.symm⟩
 ·refine List.filter_congr fun f hf=> ?_
  rw[ZdA ha hb,Zce hb hf]
def Zd8(v:List (List UInt8))(s:List UInt8):Nat:=(v.takeWhile fun x=>Op.bytesLess x s).length
def Zct(v:List (List UInt8))(s:List UInt8):List (List UInt8):=v.take (Zd8 v s)++s::v.drop (Zd8 v s)
theorem Zd9{s:List UInt8}:∀{v:List (List UInt8)} {k:Nat},k<=v.length->(∀x∈v.take k,Op.bytesLess x s=true)->(∀x,v[k]?=some x->Op.bytesLess x s=false)->Zd8 v s=k
 |[],k,hk,_,_=>by simp at hk;subst hk;rfl
 |g::v,0,_,_,h=>by
  have h1:=h g rfl;unfold Zd8;rw[List.takeWhile_cons,if_neg (by rw[h1];decide)];rfl
 |g::v,k+1,hk,h1,h2=>by
  have h3:=h1 g (by simp);have ih:=Zd9 (s:=s) (v:=v) (k:=k) (by simpa using hk) (fun x hx=>h1 x (by rw[List.take_succ_cons];exact List.mem_cons_of_mem _ hx)) (fun x hx=>h2 x (by simpa using hx));unfold Zd8 at ih ⊢;rw[List.takeWhile_cons,if_pos h3,List.length_cons,ih]
theorem Zfe{s:List UInt8}:∀{v:List (List UInt8)},s ∉ v->Zct v s=Zby s v
 |[],_=>rfl
 |g::v,hk=>by
  have hne:s≠g:=fun e=>hk (by rw[e];exact List.mem_cons_self ..)
  have ih:=Zfe (s:=s) (v:=v) fun h=>hk (List.mem_cons_of_mem _ h)
  unfold Zct Zd8 at ih ⊢;unfold Zby;rw[List.takeWhile_cons]
  cases h:Op.bytesLess g s with
  |true=>
   have hn:Op.bytesLess s g=false:=by
    cases e:Op.bytesLess s g with
    |false=>rfl
    |true=>exact absurd ((blt _ _).1 e) (Zcb ((blt _ _).1 h))
   rw[if_pos rfl,if_neg (by rw[hn];decide),if_pos rfl,List.length_cons,List.take_succ_cons,List.drop_succ_cons,List.cons_append,ih]
  |false=>
   have hb:Op.bytesLess s g=true:=by
    rcases Ve s g with h2|h2|h2
    ·exact(blt _ _).2 h2
    ·exact absurd h2 hne
    ·rw[(blt _ _).2 h2] at h;cases h
   rw[if_neg (by decide),if_pos hb];rfl
def chR(p:List UInt8->Bool)(seen:List Fct)(out:List (List UInt8)):List Fct->List (List UInt8)
 |[]=>out
 |f::fs=>if((seen.any fun g=>g.key==f.key)|| !p f.key)=true then chR p (seen++[f]) out fs else chR p (seen++[f]) (Zct out f.key) fs
theorem Zcu(p:List UInt8->Bool):∀(l seen:List Fct) (out:List (List UInt8)),out.Pairwise (·< ·)->(∀k,k∈out↔(p k=true/\∃f∈seen,f.key=k))->
 (chR p seen out l).Pairwise (·< ·)/\∀k,k∈chR p seen out l↔(p k=true/\∃f∈seen++l,f.key=k)
 |[],seen,out,hs,hm=>⟨hs,fun k=>by rw[List.append_nil];exact hm k⟩
 |f::fs,seen,out,hs,hm=>by
  unfold chR;rw[show seen++f::fs=(seen++[f])++fs by simp]
  by_cases hc:((seen.any fun g=>g.key==f.key)|| !p f.key)=true
  ·rw[if_pos hc];refine Zcu p fs (seen++[f]) out hs fun k=>(hm k).trans ⟨fun⟨h1,g,hg,h2⟩=>⟨h1,g,List.mem_append_left _ hg,h2⟩,?_⟩
   rintro⟨h1,g,hg,h2⟩
   rcases List.mem_append.1 hg with hg|hg
   ·exact⟨h1,g,hg,h2⟩
   ·obtain rfl:=List.mem_singleton.1 hg;rw[Bool.or_eq_true] at hc
    rcases hc with hc|hc
    ·obtain⟨x,hx,hxk⟩:=List.any_eq_true.1 hc
     exact⟨h1,x,hx,(by simpa using hxk:x.key=g.key).trans h2⟩
    ·rw[h2,h1] at hc;cases hc
  ·rw[if_neg hc];rw[Bool.or_eq_true,not_or] at hc;have hp:p f.key=true:=by have:=hc.2;simpa using this
   have hn:f.key ∉ out:=fun h=>by
    obtain⟨_,g,hg,h2⟩:=(hm _).1 h
    exact hc.1 (List.any_eq_true.2 ⟨g,hg,by simpa using h2⟩)
   rw[Zfe hn];refine Zcu p fs (seen++[f]) _ (Zcq _ hs) fun k=>(ZaJ _ _ _).trans ⟨?_,?_⟩
   ·rintro(rfl|h)
    ·exact⟨hp,f,List.mem_append_right _ (List.mem_singleton.2 rfl),rfl⟩
    ·obtain⟨h1,g,hg,h2⟩:=(hm _).1 h
     exact⟨h1,g,List.mem_append_left _ hg,h2⟩
   ·rintro⟨h1,g,hg,h2⟩
    rcases List.mem_append.1 hg with hg|hg
    ·exact .inr ((hm _).2 ⟨h1,g,hg,h2⟩)
    ·obtain rfl:=List.mem_singleton.1 hg;exact .inl h2.symm
theorem Znc{a b:List Fct}(ha:DK a)(hb:DK b):chR (fun k=>decide (QA a k≠QA b k)) [] [] (a++b)=Jc ((QW a b++QW b a).map (·.key)):=by
 obtain⟨h1,h2⟩:=Zcu (fun k=>decide (QA a k≠QA b k)) (a++b) [] [] .nil fun k=>⟨fun h=>(by cases h),fun⟨_,g,hg,_⟩=>(by cases hg)⟩
 refine Zfc h1 fun k=> ?_
 rw[h2,List.nil_append,<-Zbr ha hb,List.mem_map]
 constructor
 ·rintro⟨h3,f,hf,rfl⟩;exact⟨f,List.mem_filter.2 ⟨hf,h3⟩,rfl⟩
 ·rintro⟨f,hf,rfl⟩;exact⟨(List.mem_filter.1 hf).2,f,(List.mem_filter.1 hf).1,rfl⟩
end
section
open Go
theorem Zk9{a b:List UInt8}:a<=b↔a<b\/a=b:=by
 constructor
 ·intro h
  rcases Ve a b with h1|h1|h1
  ·exact .inl h1
  ·exact .inr h1
  ·exact absurd h1 h
 ·rintro(h|rfl)
  ·exact fun h2=>List.lt_irrefl a (List.lt_trans h h2)
  ·exact List.lt_irrefl a
theorem ZgE{a b c:List UInt8}(h:a<=b)(k:b<=c):a<=c:=by
 rw[Zk9] at*
 rcases h with h|rfl
 ·rcases k with k|rfl
  ·exact .inl (List.lt_trans h k)
  ·exact .inl h
 ·exact k
def Yd(xs:List (List UInt8)):List (List UInt8):=xs.mergeSort fun x y=>decide (x<=y)
theorem JH(xs:List (List UInt8)):(Yd xs).length=xs.length:=List.length_mergeSort xs
theorem Zem(zs:List (List UInt8)):(Lib.compact zs).length<=zs.length:=by
 unfold Lib.compact Lib.compactUpTo;rw[List.length_map];exact Nat.le_trans (List.length_filter_le _ _) (by simp)
theorem Zc2(d:Array (List UInt8))(hs:∀i j,i<=j->j<d.size->d[i]! <=d[j]!)(m:Nat)(hm:m<=d.size):
 (Lib.compactUpTo d m).Pairwise (·< ·)/\(∀x,x∈Lib.compactUpTo d m↔∃j,j<m/\d[j]! =x):=by
 induction m with
 |zero=>exact⟨by unfold Lib.compactUpTo;simp,fun x=>by unfold Lib.compactUpTo;simp⟩
 |succ m ih=>
  obtain⟨h1,h2⟩:=ih (by omega)
  rw[Lib.compactUpTo_succ]
  by_cases hk:Lib.keeps d m=true
  ·rw[if_pos hk];refine⟨?_,fun x=> ?_⟩
   ·rw[List.pairwise_append];refine⟨h1,by simp,fun x hx y hy=> ?_⟩;simp at hy;subst hy;obtain⟨j,hj,rfl⟩:=(h2 x).1 hx
    unfold Lib.keeps at hk;simp only[decide_eq_true_eq] at hk;have h3:=hs j (m-1) (by omega) (by omega);have h4:=hs (m-1) m (by omega) (by omega)
    rcases hk with hk|hk
    ·omega
    ·rcases Zk9.1 h4 with h4|h4
     ·rcases Zk9.1 h3 with h3|h3
      ·exact List.lt_trans h3 h4
      ·rw[h3];exact h4
     ·exact absurd h4.symm hk
   ·rw[List.mem_append,h2];simp only[List.mem_singleton]
    constructor
    ·rintro(⟨j,hj,rfl⟩|rfl)
     ·exact⟨j,by omega,rfl⟩
     ·exact⟨m,by omega,rfl⟩
    ·rintro⟨j,hj,rfl⟩
     by_cases e:j=m
     ·subst e;exact .inr rfl
     ·exact .inl ⟨j,by omega,rfl⟩
  ·rw[if_neg hk,List.append_nil];refine⟨h1,fun x=> ?_⟩;rw[h2];unfold Lib.keeps at hk;simp only[decide_eq_true_eq,not_or,ne_eq,Decidable.not_not] at hk
   constructor
   ·rintro⟨j,hj,rfl⟩;exact⟨j,by omega,rfl⟩
   ·rintro⟨j,hj,rfl⟩
    by_cases e:j=m
    ·subst e;exact⟨j-1,by omega,hk.2.symm⟩
    ·exact⟨j,by omega,rfl⟩
theorem ZmG(xs:List (List UInt8)):Lib.compact (Yd xs)=Jc xs:=by
 have hsorted:(Yd xs).Pairwise (fun a b=>a<=b):=by
  have:=List.pairwise_mergeSort (le:=fun x y:List UInt8=>decide (x<=y)) (fun a b c h k=>by rw[decide_eq_true_eq] at *; exact ZgE h k) (fun a b=>by
   rw[Bool.or_eq_true,decide_eq_true_eq,decide_eq_true_eq,Zk9,Zk9]
   rcases Ve a b with h|h|h
   ·exact .inl (.inl h)
   ·exact .inl (.inr h)
   ·exact .inr (.inl h)) xs
  exact this.imp (by simp)
 have hget:∀i,(h:i<(Yd xs).length)->(Yd xs).toArray[i]! =(Yd xs)[i]:=fun i hi=>by simp[hi]
 have hs:∀i j,i<=j->j<(Yd xs).toArray.size->(Yd xs).toArray[i]! <=(Yd xs).toArray[j]! :=by
  intro i j hij hj;have hj':j<(Yd xs).length:=by simpa using hj
  rw[hget i (by omega),hget j hj']
  rcases Nat.lt_or_ge i j with h|h
  ·exact List.pairwise_iff_getElem.1 hsorted i j (by omega) hj' h
  ·have:i=j:=by omega
   subst this;exact List.lt_irrefl _
 obtain⟨h1,h2⟩:=Zc2 (Yd xs).toArray hs (Yd xs).length (by simp)
 refine Zfc h1 fun x=> ?_
 show x∈Lib.compactUpTo _ _↔_
 rw[h2];have hp:x∈Yd xs↔x∈xs:=(List.mergeSort_perm xs _).mem_iff;rw[<-hp,List.mem_iff_getElem]
 constructor
 ·rintro⟨j,hj,rfl⟩;exact⟨j,hj,(hget j hj).symm⟩
 ·rintro⟨j,hj,rfl⟩;exact⟨j,hj,hget j hj⟩
end
section
open Go
theorem ZfC(s:List UInt8):∀l,(Zby s l).length<=l.length+1
 |[]=>Nat.le_refl _
 |t::ts=>by
  have ih:=ZfC s ts;unfold Zby
  split
  ·simp
  ·split
   ·simp;omega
   ·simp
theorem ZfD:∀l,(Jc l).length<=l.length
 |[]=>Nat.le_refl _
 |s::ss=>by
  have ih:=ZfD ss;have h:=ZfC s (Jc ss);unfold Jc;rw[List.length_cons];omega
section
variable {a b:List Fct}
end
end
end Go.Proofs.YtmfjmngebldanaaGreatDoor
