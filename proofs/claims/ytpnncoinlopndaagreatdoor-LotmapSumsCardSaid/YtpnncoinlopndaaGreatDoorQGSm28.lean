/- Li, Lt4, Lt5. -/
import Derived.Test.YtpnncoinlopndaaGreatDoorQGSm12
import Derived.Laws.Cover1
set_option maxRecDepth 20000
set_option maxHeartbeats 2000000
namespace Go.Proofs.YtpnncoinlopndaaGreatDoor
open Go.Lib renaming hid→hdz
section
open Go.RowKit Go.Shelf
theorem Zhd(g:Nat)(cb:Array Value)(p:Lot→Bool)(A:Option Addr)(n c:Nat)(xs:List Lot)(w:World)(eg:∀args w,(callFunc g args).run Tryz.prog w=.ok (.enter g args) w)
 (hp:∀(W:World) (x:Lot),x∈xs→Below w.heap.size w W→Calls Tryz.prog g (#[LotV x]++cb) W fun e w'=>e=.returned (.bool (p x))∧Below W.heap.size W w') (hr:Sl L7 7 w w.heap.size A n xs) (hn:n≤1000000000):
 Calls Tryz.prog 80 #[.slice A n c,.func (.func g) #[] cb] w fun e w'=>e=.returned (.int .i64 (idxG p xs))∧Below w.heap.size w w':=by
 have HPR:=hdz hp;have HR:=hdz hr
 clear hp hr
 go_enter Tryz.func80,Tryz.ntmps80
 go_wp2
 go_loopw [5,8] (fun _ i wr=>∃j:Nat,j≤n∧i=.int .i64 j∧Hid ((xs.take j).any p=false)∧Below w.heap.size w wr) (fun _ i _=>n-(intOf i).toNat)
 case atStart=>exact⟨0,Nat.zero_le _,rfl,by show _=_;simp,Below.refl _ _⟩
 case round=>
  obtain⟨j,hj,rfl,HN,hb⟩:=hrel
  by_cases hlt:j<n
  ·obtain⟨b,off,r,rfl,hbl,hxj,hd⟩:=(HR.out.below hb).at_ hlt
   have d0:wr.cell? ⟨b,off+j*7,none⟩=some (.string ⟨r.id.toArray⟩):=hd 0 _ rfl
   have d1:wr.cell? ⟨b,off+j*7+1,none⟩=some (.string ⟨r.inst.toArray⟩):=hd 1 _ rfl
   have d2:wr.cell? ⟨b,off+j*7+2,none⟩=some (.int .i64 r.acq):=hd 2 _ rfl
   have d3:wr.cell? ⟨b,off+j*7+3,none⟩=some (.int .i64 r.opn):=hd 3 _ rfl
   have d4:wr.cell? ⟨b,off+j*7+4,none⟩=some (.string ⟨r.q.toArray⟩):=hd 4 _ rfl
   have d5:wr.cell? ⟨b,off+j*7+5,none⟩=some (.string ⟨r.c.toArray⟩):=hd 5 _ rfl
   have d6:wr.cell? ⟨b,off+j*7+6,none⟩=some (.string ⟨r.u.toArray⟩):=hd 6 _ rfl
   have HX:=hdz hxj
   have hcall:=HPR.out wr r (List.mem_of_getElem? hxj) hb
   unfold LotV S at hcall
   clear hxj hd
   have HC:=hdz hcall;clear hcall
   cases hq:p r with
   |true=>
    rw[hq] at HC
    have HQ:=hdz hq;clear hq
    go_wp2_with (go_at_fn g;refine(HC.out).mono ?_;rintro e w' ⟨rfl,hb'⟩)
    go_ret
    exact⟨Zad (Zfo HX.out HQ.out HN.out).symm,hb.trans (hb'.mono hb.size)⟩
   |false=>
    rw[hq] at HC
    have HQ:=hdz hq;clear hq
    go_wp2_with (go_at_fn g;refine(HC.out).mono ?_;rintro e w' ⟨rfl,hb'⟩)
    go_roundw
    case rel=>exact⟨j+1,by omega,by go_num,Zc0 HX.out HN.out HQ.out,hb.trans (hb'.mono hb.size)⟩
    case measure=>simp[intOf];omega
  ·go_wp2
   go_ret
   exact⟨Zad (ZcZ (by have:=HN.out;rwa [List.take_of_length_le (by have:=HR.out.1;omega)] at this)).symm,hb⟩
end
section
open Go.RowKit Go.Shelf
theorem Zkk(x:Lot)(id:List UInt8)(B:Nat)(W:World)(hB:W.cell? ⟨B,0,none⟩=some (.string ⟨id.toArray⟩)):Calls Tryz.prog 81 (#[LotV x]++#[.pointer (some ⟨B,0,none⟩)]) W fun e w'=>e=.returned (.bool (x.id==id))∧Below W.heap.size W w':=by
 have hb:=(Below.refl W.heap.size W).alloc (Nat.le_refl _) (.cells #[.string ⟨x.id.toArray⟩,.string ⟨x.inst.toArray⟩,.int .i64 x.acq,.int .i64 x.opn,.string ⟨x.q.toArray⟩,.string ⟨x.c.toArray⟩,.string ⟨x.u.toArray⟩] 54)
 have hlt:=World.block_lt_of_cell? W _ hB
 have HB:=hdz hb
 have c1:=(hb.cell (p:=⟨B,0,none⟩) hlt).trans hB
 have hn:=heap_alloc_new W (.cells #[.string ⟨x.id.toArray⟩,.string ⟨x.inst.toArray⟩,.int .i64 x.acq,.int .i64 x.opn,.string ⟨x.q.toArray⟩,.string ⟨x.c.toArray⟩,.string ⟨x.u.toArray⟩] 54)
 have c0:=cell_of_row _ _ 0 _ _ _ hn
 simp only[List.getElem?_toArray,List.getElem?_cons_zero] at c0
 clear hb hn hB hlt
 unfold LotV S
 show Calls _ _ #[.agg #[.string ⟨x.id.toArray⟩,.string ⟨x.inst.toArray⟩,.int .i64 x.acq,.int .i64 x.opn,.string ⟨x.q.toArray⟩,.string ⟨x.c.toArray⟩,.string ⟨x.u.toArray⟩],.pointer (some ⟨B,0,none⟩)] _ _
 go_enter Tryz.func81,Tryz.ntmps81
 go_wp2_with fail
 first|go_ret|skip
 exact⟨rfl,HB.out⟩
def fndI(ls:List Lot)(id:List UInt8):Int:=idxG (fun x:Lot=>x.id==id) ls
theorem ZhX(A:Option Addr)(n c:Nat)(ls:List Lot)(id:List UInt8)(w:World)(hs:Lots w w.heap.size A n ls)(hn:n≤1000000000):
 Calls Tryz.prog 28 #[.slice A n c,S id] w fun e w'=>e=.returned (.tuple #[.int .i64 (max (fndI ls id) 0),.bool (decide (0≤fndI ls id))])∧Below w.heap.size w w':=by
 have hbA:=(Below.refl w.heap.size w).alloc (Nat.le_refl _) (.cells #[.string ⟨id.toArray⟩] 9)
 have hn1:=heap_alloc_new w (.cells #[.string ⟨id.toArray⟩] 9)
 have c0:(w.alloc (.cells #[.string ⟨id.toArray⟩] 9)).cell? ⟨w.heap.size,0,none⟩=some (.string ⟨id.toArray⟩):=cell_of_row _ _ 0 _ _ _ hn1
 have hlt:=World.block_lt_of_cell? _ _ c0
 have HI:=hdz (Zhd 81 #[.pointer (some ⟨w.heap.size,0,none⟩)] (fun x:Lot=>x.id==id) A n c ls (w.alloc (.cells #[.string ⟨id.toArray⟩] 9)) (enters_of Tryz.func81 (by kernel_rfl) rfl)
  (fun W' x _ hb'=>Zkk x id w.heap.size W' ((hb'.cell (p:=⟨w.heap.size,0,none⟩) hlt).trans c0)) (hs.here hbA) hn)
 have HFI:=hdz (show fndI ls id=idxG (fun x:Lot=>x.id==id) ls from rfl)
 rw[←HFI.out] at HI
 clear HFI
 generalize fndI ls id=z at*
 have HB:=hdz hbA
 clear hbA hn1 c0 hlt hs
 unfold S
 go_enter Tryz.func28,Tryz.ntmps28
 go_wp2_with fail
 refine HI.out.mono ?_
 rintro e w1 ⟨rfl,hb⟩
 go_wp2_with fail
 first|go_ret2|skip
 exact⟨rfl,HB.out.trans (hb.mono (by simp))⟩
end
section
open Go.RowKit Go.Shelf
attribute [local go_sem ↓] Go.wp_at_zero Go.wp_at_succ
theorem Zm3(A:Option Addr)(n c i vb base:Nat)(xs:List Lot)(x:Lot)(w:World)(ho:Own L7 7 54 w base (.slice A n c) xs)(hv:BlkB w vb (lotC7 x) 54)(hne:∀g,A=some ⟨g,0,none⟩→vb≠g)(hi:i≤n)(hn:n≤1000000)(hbs:base≤w.heap.size):
 Calls Tryz.prog 84 #[.slice A n c,.int .i64 i,.slice (some ⟨vb,0,none⟩) 1 1] w (RetIns base w (n+1) (xs.take i++x::xs.drop i)):=by
 have hnx:=ho.facts.1
 rcases Nat.lt_or_ge i n with h|h
 ·rcases ho.facts.2.2.2 with ⟨_,_,e⟩|⟨g,rfl,_,_⟩
  ·rw[e] at hnx;simp at hnx;omega
  ·rcases Nat.lt_or_ge c (n+1) with h2|h2
   ·exact Zk7 g n c i vb base xs x w ho hv h h2 hn hbs
   ·exact Zk6 g n c i vb base xs x w ho hv (hne g rfl) h h2 hn hbs
 ·obtain rfl:i=n:=by omega
  have hl:Lots w w.heap.size (some ⟨vb,0,none⟩) 1 [x]:=by
   refine⟨rfl,fun _=>⟨vb,0,rfl,hv.lt,fun j y hj k u hk=> ?_⟩⟩
   cases j with
   |zero=>
    simp only[List.getElem?_cons_zero,Option.some.injEq] at hj
    subst hj
    rw[Nat.zero_mul,Nat.zero_add]
    exact hv.cell k (by rw[←Zc8];simpa using hk)
   |succ j=>simp at hj
  rw[List.take_of_length_le (by omega),List.drop_eq_nil_of_le (by omega)]
  exact ZmD A i c vb base xs x w ho hl hn hbs
theorem Zhe(ls:List Lot)(id:List UInt8):decide (0≤fndI ls id)=decide (id∈ls.map (·.id)):=by
 unfold fndI
 rw[Zef,Bool.eq_iff_iff,List.any_eq_true,decide_eq_true_eq,List.mem_map]
 simp
theorem ZiN{ls:List Lot}{k:Nat}{y:Lot}(i:List UInt8)(h:ls[k]?=some y):putAt (ls.take (k+1)) i=if leS y.inst i=true then k+1 else putAt (ls.take k) i:=by
 obtain⟨hk,rfl⟩:=List.getElem?_eq_some_iff.1 h
 rw[List.take_succ_eq_append_getElem hk,Zil,List.length_take,Nat.min_eq_left (by omega)]
theorem Zgx(l:List Lot)(i:List UInt8):putAt l i≤l.length:=Nat.sub_le _ _
theorem Zfc(A:Option Addr)(n c:Nat)(xs:List Lot)(w:World)(hr:Lots w w.heap.size A n xs)(hn:n≤1000000)(hA:(A=none∧c=0)∨∃a,A=some a):
 Calls Tryz.prog 26 #[.slice A n c] w fun e w'=>∃A1 c1,e=.returned (.slice A1 n c1)∧Own L7 7 54 w' w.heap.size (.slice A1 n c1) xs∧Below w.heap.size w w':=by
 have hnx:=hr.1
 rcases hA with ⟨rfl,rfl⟩|⟨a,rfl⟩
 ·have h0:xs=[]:=by
   cases xs with
   |nil=>rfl
   |cons y ys=>obtain⟨b,off,h,_⟩:=hr.2 (by rw[hnx];simp);cases h
  subst h0
  simp only[List.length_nil] at hnx
  subst hnx
  exact ZgW w
 ·have h:=ZgV a n c xs w hr hn
  unfold RetOwn at h
  rw[←hnx] at h
  exact h
theorem Zmf{W:World}{base n c g:Nat}{A:Option Addr}{xs:List Lot}(h:Own L7 7 54 W base (.slice A n c) xs)(hg:A=some ⟨g,0,none⟩):base≤g∧g<W.heap.size:=by
 rcases h.facts.2.2.2 with ⟨e,_⟩|⟨g',e,h1,h2⟩
 ·rw[e] at hg;cases hg
 ·rw[e] at hg;injection hg with hg;injection hg with hg;subst hg;exact⟨h1,h2⟩
theorem s7{w W:World}{p:Nat}{T:TypeId}{a b c d e f g:Value}(h:Kp w [(p,#[a,b,c,d,e,f,g],T)] W):W.cell? ⟨p,0,none⟩=some a∧W.cell? ⟨p,1,none⟩=some b∧W.cell? ⟨p,2,none⟩=some c∧W.cell? ⟨p,3,none⟩=some d∧W.cell? ⟨p,4,none⟩=some e∧W.cell? ⟨p,5,none⟩=some f∧W.cell? ⟨p,6,none⟩=some g:=
 ⟨h.c 0 0 rfl rfl,h.c 0 1 rfl rfl,h.c 0 2 rfl rfl,h.c 0 3 rfl rfl,h.c 0 4 rfl rfl,h.c 0 5 rfl rfl,h.c 0 6 rfl rfl⟩
theorem s7b{W:World}{p:Nat}{T:TypeId}{a b c d e f g:Value}(h:BlkB W p #[a,b,c,d,e,f,g] T):W.cell? ⟨p,0,none⟩=some a∧W.cell? ⟨p,1,none⟩=some b∧W.cell? ⟨p,2,none⟩=some c∧W.cell? ⟨p,3,none⟩=some d∧W.cell? ⟨p,4,none⟩=some e∧W.cell? ⟨p,5,none⟩=some f∧W.cell? ⟨p,6,none⟩=some g:=
 ⟨h.cell 0 rfl,h.cell 1 rfl,h.cell 2 rfl,h.cell 3 rfl,h.cell 4 rfl,h.cell 5 rfl,h.cell 6 rfl⟩
theorem ZlL(A:Option Addr)(n c:Nat)(ls:List Lot)(x:Lot)(w:World)(hp:Env w)(hs:Lots w w.heap.size A n ls)(hl:∀y∈ls,y.Sz 50000)(hx:x.Sz 50000)(hn:n≤1000000000)(hnil:(A=none∧c=0)∨∃b off,A=some ⟨b,off,none⟩):
 Calls Tryz.prog 32 #[.slice A n c,LotV x] w (RetOwn2 L7 7 54 w.heap.size w (openL ls x)):=by
 have HPO:=hdz (show RetOwn2 L7 7 54 w.heap.size w (openL ls x)=fun e w'=>∃A c,e=.returned (.tuple #[.slice A (openL ls x).1.length c,.int .i64 (openL ls x).2])∧Own L7 7 54 w' w.heap.size (.slice A (openL ls x).1.length c) (openL ls x).1∧Below w.heap.size w w' from rfl)
 have HSC:=hdz (show openL ls x=if allC ls≠0 then([],1) else if lotC x≠0 then([],lotC x) else if x.id∈ls.map (·.id) then([],5) else if 1000≤ls.length then([],4) else(putL ls x,0) from rfl)
 have HPL:=hdz (show putL ls x=ls.take (putAt ls x.inst)++x::ls.drop (putAt ls x.inst) from rfl)
 have hnw:=hs.1
 have HCA:=hdz (fun W (hb:Below w.heap.size w W)=>ZdG A n c ls W (hp.here hb) (hs.here hb) hl hn)
 have HCK:=hdz (Ze3 x hx)
 have HFD:=hdz (fun W (hb:Below w.heap.size w W)=>ZhX A n c ls x.id W (hs.here hb) hn)
 rw[Zhe] at HFD
 have H:=hdz ((Kp.start hp).new w.heap.size rfl (lotC7 x) 54)
 have HS:=hdz hs
 rw[←hnw] at HSC
 generalize RetOwn2 L7 7 54 w.heap.size w (openL ls x)=post at*
 generalize openL ls x=res at*
 generalize putL ls x=pl at*
 generalize max (fndI ls x.id) 0=fi at*
 have HNW:=hdz hnw
 have HNIL:=hdz hnil
 clear hs hp hl hx hnw hnil
 have e7:lotC7 x=#[.string ⟨x.id.toArray⟩,.string ⟨x.inst.toArray⟩,.int .i64 x.acq,.int .i64 x.opn,.string ⟨x.q.toArray⟩,.string ⟨x.c.toArray⟩,.string ⟨x.u.toArray⟩]:=rfl
 rw[e7] at H
 clear e7
 have c0:=H.out.c 0 0 rfl rfl;have c1:=H.out.c 0 1 rfl rfl;have c2:=H.out.c 0 2 rfl rfl;have c3:=H.out.c 0 3 rfl rfl;have c4:=H.out.c 0 4 rfl rfl;have c5:=H.out.c 0 5 rfl rfl;have c6:=H.out.c 0 6 rfl rfl
 unfold LotV S at*
 by_cases ha:allC ls=0
 ·rw[if_neg (by simpa using ha)] at HSC
  rw[ha] at HCA
  clear ha
  by_cases hc:lotC x=0
  ·rw[if_neg (by simpa using hc)] at HSC
   rw[hc] at HCK
   clear hc
   go_enter Tryz.func32,Tryz.ntmps32
   go_wp2_with fail
   generalize w.alloc _=W at*
   refine(HCA.out _ H.out.bl).mono ?_
   rintro e w1 ⟨rfl,hb⟩
   have H1:=hdz (H.out.here hb)
   clear H hb c0 c1 c2 c3 c4 c5 c6
   have c0:=H1.out.c 0 0 rfl rfl;have c1:=H1.out.c 0 1 rfl rfl;have c2:=H1.out.c 0 2 rfl rfl;have c3:=H1.out.c 0 3 rfl rfl;have c4:=H1.out.c 0 4 rfl rfl;have c5:=H1.out.c 0 5 rfl rfl;have c6:=H1.out.c 0 6 rfl rfl
   have HCK1:=hdz (HCK.out w1 H1.out.pw)
   go_wp2_with fail
   refine HCK1.out.mono ?_
   rintro e w2 ⟨rfl,hb⟩
   have H2:=hdz (H1.out.here hb)
   clear H1 HCK1 hb c0 c1 c2 c3 c4 c5 c6
   have c0:=H2.out.c 0 0 rfl rfl
   go_wp2_with fail
   refine(HFD.out _ H2.out.bl).mono ?_
   rintro e w3 ⟨rfl,hb⟩
   have H3:=hdz (H2.out.here hb)
   clear H2 hb c0
   have c0:=H3.out.c 0 0 rfl rfl;have c1:=H3.out.c 0 1 rfl rfl;have c2:=H3.out.c 0 2 rfl rfl;have c3:=H3.out.c 0 3 rfl rfl;have c4:=H3.out.c 0 4 rfl rfl;have c5:=H3.out.c 0 5 rfl rfl;have c6:=H3.out.c 0 6 rfl rfl
   by_cases hm:x.id∈ls.map (·.id)
   ·rw[if_pos hm] at HSC
    rw[decide_eq_true hm]
    clear hm
    go_wp2_with fail
    first|go_ret2|skip
    rw[HPO.out,HSC.out]
    exact⟨none,0,rfl,Own.nil,H3.out.bl⟩
   ·rw[if_neg hm] at HSC
    rw[decide_eq_false hm]
    clear hm
    by_cases hth:1000≤n
    ·rw[if_pos hth] at HSC
     have hth2:(1000:Int)≤(n:Int):=by omega
     clear hth
     go_wp2_with fail
     first|go_ret2|skip
     rw[HPO.out,HSC.out]
     exact⟨none,0,rfl,Own.nil,H3.out.bl⟩
    ·rw[if_neg hth] at HSC
     have hth2:¬(1000:Int)≤(n:Int):=by omega
     have HTH:=hdz (show n<1000 by omega)
     clear hth
     clear c0 c1 c2 c3 c4 c5 c6
     go_wp2_with fail
     go_loopw [9,10,11,33] (fun a _ _ j wr=>∃k:Nat,k≤n∧j=.int .i64 k∧a=.int .i64 (putAt (ls.take k) x.inst:Nat)∧Hid (Kp w [(w.heap.size,#[.string ⟨x.id.toArray⟩,.string ⟨x.inst.toArray⟩,.int .i64 x.acq,.int .i64 x.opn,.string ⟨x.q.toArray⟩,.string ⟨x.c.toArray⟩,.string ⟨x.u.toArray⟩],54)] wr)) (fun _ _ _ j _=>n-(intOf j).toNat)
     case atStart=>exact⟨0,Nat.zero_le _,rfl,by simp[putAt],H3⟩
     case round=>
      clear H3
      obtain⟨k,hk,rfl,rfl,HK⟩:=hrel
      by_cases hlt:k<n
      ·obtain⟨b,off,y,rfl,hb,hy,d0,d1,d2,d3,d4,d5,d6⟩:=(HS.out.here HK.out.bl).lot7 hlt
       have HPT:=hdz (ZiN x.inst hy)
       clear hy
       have hxl:w.heap.size<wr.heap.size:=HK.out.lt 0 rfl
       have hxn:w.heap.size≠wr.heap.size:=by omega
       have c1:=HK.out.c 0 1 rfl rfl
       have HA:=hdz (HK.out.alloc (.cells #[.string ⟨y.id.toArray⟩,.string ⟨y.inst.toArray⟩,.int .i64 y.acq,.int .i64 y.opn,.string ⟨y.q.toArray⟩,.string ⟨y.c.toArray⟩,.string ⟨y.u.toArray⟩] 54))
       cases hle:leS y.inst x.inst with
       |true=>
        rw[if_pos hle] at HPT
        have hle2:(Op.bytesLess y.inst x.inst||y.inst==x.inst)=true:=hle
        clear hle
        go_wp2_with fail
        go_roundw
        case rel=>exact⟨k+1,by omega,by go_num,by rw[HPT.out];go_num,HA⟩
        case measure=>simp[intOf];omega
       |false=>
        rw[if_neg (by simp[hle])] at HPT
        have hle2:(Op.bytesLess y.inst x.inst||y.inst==x.inst)=false:=hle
        clear hle
        go_wp2_with fail
        go_roundw
        case rel=>exact⟨k+1,by omega,by go_num,by rw[HPT.out],HA⟩
        case measure=>simp[intOf];omega
      ·obtain rfl:k=n:=by omega
       have c0:=HK.out.c 0 0 rfl rfl;have c1:=HK.out.c 0 1 rfl rfl;have c2:=HK.out.c 0 2 rfl rfl;have c3:=HK.out.c 0 3 rfl rfl;have c4:=HK.out.c 0 4 rfl rfl;have c5:=HK.out.c 0 5 rfl rfl;have c6:=HK.out.c 0 6 rfl rfl
       have htk:ls.take k=ls:=List.take_of_length_le (by rw[HNW.out];exact Nat.le_refl _)
       have HPP:=hdz (show putAt (ls.take k) x.inst=putAt ls x.inst by rw[htk])
       have hpk:putAt (ls.take k) x.inst≤k:=by have:=Zgx (ls.take k) x.inst;rw[List.length_take] at this;omega
       clear htk
       have HCL:=hdz (fun W (hb:Below w.heap.size w W)=>Zfc A k c ls W (HS.out.here hb) (by have:=HTH.out;omega) (HNIL.out.imp id (fun⟨b,off,h⟩=>⟨_,h⟩)))
       have HIN:=hdz (fun W A1 c1 vb base (ho:Own L7 7 54 W base (.slice A1 k c1) ls) (hv:BlkB W vb #[.string ⟨x.id.toArray⟩,.string ⟨x.inst.toArray⟩,.int .i64 x.acq,.int .i64 x.opn,.string ⟨x.q.toArray⟩,.string ⟨x.c.toArray⟩,.string ⟨x.u.toArray⟩] 54) (hne:∀g,A1=some ⟨g,0,none⟩→vb≠g) (hbs:base≤W.heap.size)=>Zm3 A1 k c1 (putAt (ls.take k) x.inst) vb base ls x W ho hv hne hpk (by have:=HTH.out;omega) hbs)
       rw[HPP.out] at HIN
       rw[←HPL.out] at HIN
       rw[←HPP.out] at HIN
       have HLN:=hdz (show pl.length=k+1 by
        rw[HPL.out,List.length_append,List.length_cons,List.length_take,List.length_drop,←HNW.out]
        have:=Zgx ls x.inst
        rw[←HNW.out] at this
        omega)
       generalize putAt (ls.take k) x.inst=pi at*
       clear hpk HFD HCA HCK
       go_wp2_with fail
       go_region_held3? (fun w'=>w'.cell? ⟨w.heap.size,0,none⟩=some (.string ⟨x.id.toArray⟩)∧w'.cell? ⟨w.heap.size,1,none⟩=some (.string ⟨x.inst.toArray⟩)∧w'.cell? ⟨w.heap.size,2,none⟩=some (.int .i64 x.acq)∧w'.cell? ⟨w.heap.size,3,none⟩=some (.int .i64 x.opn)∧w'.cell? ⟨w.heap.size,4,none⟩=some (.string ⟨x.q.toArray⟩)∧w'.cell? ⟨w.heap.size,5,none⟩=some (.string ⟨x.c.toArray⟩)∧w'.cell? ⟨w.heap.size,6,none⟩=some (.string ⟨x.u.toArray⟩))
        (first
          |with_reducible exact s7b hk2
          |with_reducible exact s7 (hk1.alloc _)
          |with_reducible exact s7 hk1
          |with_reducible exact s7 (HK.out.alloc _).drew
          |with_reducible exact s7 HK.out.drew
          |go_keep)
        (first
          |(go_at_call 26
            first
             |((with_reducible refine(HCL.out _ HK.out.drew.bl).mono ?_);rintro e w1 ⟨A1,c1,rfl,ho1,hb1⟩;have hk1:=HK.out.drew.here hb1)
             |((with_reducible refine(HCL.out _ (HK.out.alloc (.cells #[.string ⟨x.id.toArray⟩,.string ⟨x.inst.toArray⟩,.int .i64 x.acq,.int .i64 x.opn,.string ⟨x.q.toArray⟩,.string ⟨x.c.toArray⟩,.string ⟨x.u.toArray⟩] 54)).drew.bl).mono ?_);rintro e w1 ⟨A1,c1,rfl,ho1,hb1⟩;have hk1:=(HK.out.alloc (.cells #[.string ⟨x.id.toArray⟩,.string ⟨x.inst.toArray⟩,.int .i64 x.acq,.int .i64 x.opn,.string ⟨x.q.toArray⟩,.string ⟨x.c.toArray⟩,.string ⟨x.u.toArray⟩] 54)).drew.here hb1;have hv1:BlkB w1 wr.heap.size #[.string ⟨x.id.toArray⟩,.string ⟨x.inst.toArray⟩,.int .i64 x.acq,.int .i64 x.opn,.string ⟨x.q.toArray⟩,.string ⟨x.c.toArray⟩,.string ⟨x.u.toArray⟩] 54:=BlkB.here (w:=(wr.alloc (.cells #[.string ⟨x.id.toArray⟩,.string ⟨x.inst.toArray⟩,.int .i64 x.acq,.int .i64 x.opn,.string ⟨x.q.toArray⟩,.string ⟨x.c.toArray⟩,.string ⟨x.u.toArray⟩] 54)).drew) (heap_alloc_new wr _) hb1))
          |(go_at_call 84
            first
             |(have hne:∀g,A1=some ⟨g,0,none⟩→wr.heap.size≠g:=fun g hg=>by(have:=(Zmf ho1 hg).1;simp at this;omega)
               (with_reducible refine(HIN.out _ A1 c1 _ _ ho1 hv1 hne hb1.size).mono ?_);rintro e w2 ⟨A2,c2,rfl,ho2,hb2⟩;have hz2:=hb2.mono (show w.heap.size≤_ from(HK.out.alloc (.cells #[.string ⟨x.id.toArray⟩,.string ⟨x.inst.toArray⟩,.int .i64 x.acq,.int .i64 x.opn,.string ⟨x.q.toArray⟩,.string ⟨x.c.toArray⟩,.string ⟨x.u.toArray⟩] 54)).drew.bl.size);have hf2:=hk1.bl.trans hz2;have ho3:=ho2.base_ (show w.heap.size≤_ from(HK.out.alloc (.cells #[.string ⟨x.id.toArray⟩,.string ⟨x.inst.toArray⟩,.int .i64 x.acq,.int .i64 x.opn,.string ⟨x.q.toArray⟩,.string ⟨x.c.toArray⟩,.string ⟨x.u.toArray⟩] 54)).drew.bl.size);have hk2:BlkB w2 w.heap.size #[.string ⟨x.id.toArray⟩,.string ⟨x.inst.toArray⟩,.int .i64 x.acq,.int .i64 x.opn,.string ⟨x.q.toArray⟩,.string ⟨x.c.toArray⟩,.string ⟨x.u.toArray⟩] 54:=(hb2.block _ ((HK.out.alloc (.cells #[.string ⟨x.id.toArray⟩,.string ⟨x.inst.toArray⟩,.int .i64 x.acq,.int .i64 x.opn,.string ⟨x.q.toArray⟩,.string ⟨x.c.toArray⟩,.string ⟨x.u.toArray⟩] 54)).drew.lt 0 rfl)).trans (hk1.at_ 0 rfl))
             |(have hv2:BlkB (w1.alloc (.cells #[.string ⟨x.id.toArray⟩,.string ⟨x.inst.toArray⟩,.int .i64 x.acq,.int .i64 x.opn,.string ⟨x.q.toArray⟩,.string ⟨x.c.toArray⟩,.string ⟨x.u.toArray⟩] 54)) w1.heap.size #[.string ⟨x.id.toArray⟩,.string ⟨x.inst.toArray⟩,.int .i64 x.acq,.int .i64 x.opn,.string ⟨x.q.toArray⟩,.string ⟨x.c.toArray⟩,.string ⟨x.u.toArray⟩] 54:=heap_alloc_new w1 _
               have hne:∀g,A1=some ⟨g,0,none⟩→w1.heap.size≠g:=fun g hg=>by(have:=(Zmf ho1 hg).2;omega)
               (with_reducible refine(HIN.out _ A1 c1 _ _ (ho1.alloc (.cells #[.string ⟨x.id.toArray⟩,.string ⟨x.inst.toArray⟩,.int .i64 x.acq,.int .i64 x.opn,.string ⟨x.q.toArray⟩,.string ⟨x.c.toArray⟩,.string ⟨x.u.toArray⟩] 54)) hv2 hne (by have:=hb1.size;simp at *; omega)).mono ?_);rintro e w2 ⟨A2,c2,rfl,ho2,hb2⟩;have hz2:=hb2.mono (show w.heap.size≤_ from HK.out.drew.bl.size);have hf2:=(hk1.alloc (.cells #[.string ⟨x.id.toArray⟩,.string ⟨x.inst.toArray⟩,.int .i64 x.acq,.int .i64 x.opn,.string ⟨x.q.toArray⟩,.string ⟨x.c.toArray⟩,.string ⟨x.u.toArray⟩] 54)).bl.trans hz2;have ho3:=ho2.base_ (show w.heap.size≤_ from HK.out.drew.bl.size);have hk2:BlkB w2 w.heap.size #[.string ⟨x.id.toArray⟩,.string ⟨x.inst.toArray⟩,.int .i64 x.acq,.int .i64 x.opn,.string ⟨x.q.toArray⟩,.string ⟨x.c.toArray⟩,.string ⟨x.u.toArray⟩] 54:=(hb2.block _ (HK.out.drew.lt 0 rfl)).trans ((hk1.alloc (.cells #[.string ⟨x.id.toArray⟩,.string ⟨x.inst.toArray⟩,.int .i64 x.acq,.int .i64 x.opn,.string ⟨x.q.toArray⟩,.string ⟨x.c.toArray⟩,.string ⟨x.u.toArray⟩] 54)).at_ 0 rfl))))
       all_goals
        go_wp2_with fail
        first|go_ret2|skip
        rw[HPO.out,HSC.out]
        rw[HLN.out]
        exact⟨A2,c2,rfl,ho3,hf2⟩
  ·rw[if_pos hc] at HSC
   have hc0:(lotC x !=0)=true:=by simp[hc]
   clear hc
   generalize lotC x=z at*
   go_enter Tryz.func32,Tryz.ntmps32
   go_wp2_with fail
   generalize w.alloc _=W at*
   refine(HCA.out _ H.out.bl).mono ?_
   rintro e w1 ⟨rfl,hb⟩
   have H1:=hdz (H.out.here hb)
   clear H hb c0 c1 c2 c3 c4 c5 c6
   have c0:=H1.out.c 0 0 rfl rfl;have c1:=H1.out.c 0 1 rfl rfl;have c2:=H1.out.c 0 2 rfl rfl;have c3:=H1.out.c 0 3 rfl rfl;have c4:=H1.out.c 0 4 rfl rfl;have c5:=H1.out.c 0 5 rfl rfl;have c6:=H1.out.c 0 6 rfl rfl
   have HCK1:=hdz (HCK.out w1 H1.out.pw)
   go_wp2_with fail
   refine HCK1.out.mono ?_
   rintro e w2 ⟨rfl,hb⟩
   go_wp2_with fail
   first|go_ret2|skip
   rw[HPO.out,HSC.out]
   exact⟨none,0,rfl,Own.nil,(H1.out.here hb).bl⟩
 ·rw[if_pos ha] at HSC
  have ha0:(allC ls !=0)=true:=by simp[ha]
  clear ha
  generalize allC ls=z at*
  go_enter Tryz.func32,Tryz.ntmps32
  go_wp2_with fail
  generalize w.alloc _=W at*
  refine(HCA.out _ H.out.bl).mono ?_
  rintro e w1 ⟨rfl,hb⟩
  go_wp2_with fail
  first|go_ret2|skip
  rw[HPO.out,HSC.out]
  exact⟨none,0,rfl,Own.nil,(H.out.here hb).bl⟩
end
end Go.Proofs.YtpnncoinlopndaaGreatDoor
