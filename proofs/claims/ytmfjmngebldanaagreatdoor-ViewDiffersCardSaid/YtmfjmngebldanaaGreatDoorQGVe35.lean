/- Vaw, Vby. -/
import Derived.Test.YtmfjmngebldanaaGreatDoorQGVe28
import Derived.Test.YtmfjmngebldanaaGreatDoorQGVe15
set_option maxRecDepth 100000
set_option maxHeartbeats 4000000
namespace Go.Proofs.YtmfjmngebldanaaGreatDoor
open Go.Lib renaming hid→jq
open Go.RowKit Go.Shelf
section
attribute [local go_sem] Oper.semAt_some
attribute [local go_sem ↓] Ql Qz
theorem XB(key:List UInt8)(stamp day:Int)(w:World):
 Calls Tryz.prog 26 #[.string ⟨key.toArray⟩,.int .i64 stamp,.int .i64 day] w fun e w'=>e=.returned (.agg (Qb (Yv key stamp day) Qx))/\Below w.1.size w w':=by
 have hst:=fun cs (hc:cs.size=21)=>QB w (Yv key stamp day) Qx (cs:=cs) hc
 have HB:=jq ((Below.refl w.1.size w).alloc (Nat.le_refl _) (.cells (Qb (Yv key stamp day) Qx) 43));have hld:=Qj (show BlkB (w.alloc (.cells (Qb (Yv key stamp day) Qx) 43)) w.1.size _ 43 from heap_alloc_new w _) (Qg _ _);simp only[Qb,Yv,Qx] at hst hld;go_enter Tryz.func26,Tryz.ntmps26
 go_wp2_with fail
 refine bodyPost_ret (v:=.agg (Qb (Yv key stamp day) Qx)) ((results_cell_row rfl _ _ w.1.size 43 (Qb (Yv key stamp day) Qx) (0,0) _ rfl (heap_alloc_new w _) Tryz.underlying43 rfl (by rw[Qg];kernel_rfl)).trans rfl) rfl ?_;exact⟨rfl,HB.out⟩
end
section
attribute [local go_sem] Oper.semAt_some
attribute [local go_sem ↓] Ql Qz
def f00:Fct:=⟨[],0,false,0,0,[],[],[],[],[],[],[],⟨[],[]⟩,⟨[],[]⟩,⟨[],[]⟩,[],[],0⟩
theorem ZmE(w:World):(zeroValue 43).run Tryz.prog w=.ok (.agg (Qb f00 Qx)) w:=by
 obtain⟨i,hi,hz⟩:∃i,Tryz.prog.info? 43=some i/\i.zero=some (.agg (Qb f00 Qx)):=by
  have h:(Tryz.prog.info? 43).bind (fun i=>i.zero)=some (.agg (Qb f00 Qx)):=by kernel_rfl
  cases hq:Tryz.prog.info? 43 with
  |none=>rw[hq] at h;cases h
  |some i=>rw[hq] at h;exact⟨i,rfl,h⟩
 simp[zeroValue,typeInfo,hi,hz]
def ZcK(l:List Fx)(k:List UInt8):Option Fx:=l.reverse.find? fun x=>x.1.key==k
def ZgD(l:List Fx)(k:List UInt8):Option Value:=(ZcK l k).map fun x=>.agg (Qb x.1 x.2)
theorem ZiE(l:List Fx)(f:Fct)(v:FaV):(fun j=>if j=f.key then some (.agg (Qb f v)) else ZgD l j)=ZgD (l++[(f,v)]):=by
 funext j
 unfold ZgD ZcK;rw[List.reverse_append,List.reverse_singleton,List.singleton_append,List.find?_cons]
 by_cases h:j=f.key
 ·subst h;rw[if_pos rfl];simp
 ·rw[if_neg h];have h2:(f.key==j)=false:=beq_false_of_ne fun e=>h e.symm
  simp[h2]
theorem Zbe(l:List Fx)(k:List UInt8):QX (l.map (·.1)) k=(ZcK l k).map (·.1):=by
 unfold QX ZcK;rw[<-List.map_reverse,List.find?_map];rfl
theorem ZiF{l:List Fx}{k:List UInt8}{x:Fx}(h:ZcK l k=some x):x∈l:=List.mem_reverse.1 (List.mem_of_find?_eq_some h)
theorem ZcL{xs:List Fx}{k:Nat}{x:Fx}(h:xs[k]?=some x):xs.take (k+1)=xs.take k++[x]:=by rw[List.take_add_one,h];rfl
theorem ZiG(A:Option Addr)(n c:Nat)(xs:List Fx)(w:World)(hp:Env w)(hs:Fxs w w.1.size A n xs)(hn:n<=1000000):
 Calls Tryz.prog 68 #[.slice A n c] w fun e w'=>e=.returned (.map (some w.1.size))/\SmB w' w.1.size n (ZgD xs)/\Below w.1.size w w':=by
 have HS:=jq hs;have HNW:=jq hs.len;have H:=jq (Kp.start hp);clear hs hp;have hmm:= @run_makeMap Tryz.prog;have HM:=jq (ZmD w);have H1:=jq (H.out.alloc (.map #[] 0));clear H;go_enter Tryz.func68,Tryz.ntmps68
 go_wp2_with fail
 generalize hW:w.alloc (.map #[] 0)=W at*;obtain⟨p,hpw⟩:∃p,w.1.size=p:=⟨_,rfl⟩
 rw[hpw] at HM ⊢;have HP:=jq hpw;clear hpw hW
 go_loopw [5,9] (fun _ i wr=>∃(k:Nat),k<=n/\i=.int .i64 k/\Hid (Kp w [] wr)/\Hid (SmB wr p k (ZgD (xs.take k)))) (fun _ i _=>n-(intOf i).toNat)
 case atStart=>exact⟨0,Nat.zero_le _,rfl,H1,HM⟩
 case round=>
  clear H1 HM;obtain⟨k,hk,rfl,H,HM⟩:=hrel
  by_cases hlt:k<n
  ·obtain⟨b,off,f,v,rfl,hb,hx,hm,hr⟩:=(HS.out.below H.out.bl).at_ hlt
   have hld:=Qi hr;have hst:=fun cs (hc:cs.size=21)=>QB wr f v (cs:=cs) hc
   have HX:=jq hx;have HB:=jq (H.out.new wr.1.size rfl (Qb f v) 43);have HM2:=jq (HM.out.alloc (.cells (Qb f v) 43));have HKL:=jq (show f.key.length<=maxLen/\k<maxLen by have:=hm.sz.key;unfold maxLen;simp only at this;omega);clear hx hr hb hm HM;go_upto_region 5 with (fail)
   generalize wr.alloc (.cells (Qb f v) 43)=W1 at*;clear hld hst;generalize hbb:wr.1.size=b1 at*;clear hbb H;have hl1:=Qj (HB.out.at_ 0 rfl) (Qg f v);have c0:=HB.out.c 0 0 rfl (show(Qb f v)[0]?=some (.string ⟨f.key.toArray⟩) from rfl);obtain⟨W3,hput,HM3,hg⟩:=HM2.out.put (t:=94) Tryz.underlying94 HKL.out.2 (k:=f.key) HKL.out.1 (.agg (Qb f v))
   have HK3:=jq (HB.out.bare.turn hg (by have:=HP.out;omega));have HM4:=jq HM3;clear HM3 hg;go_wp2_with fail
   go_roundw
   case rel=>exact⟨k+1,by omega,by go_num,HK3,(show SmB _ _ _ _ by rw[ZcL HX.out,<-ZiE];exact HM4.out)⟩
   case measure=>simp[intOf];omega
  ·obtain rfl:k=n:=by omega
   go_wp2_with fail
   go_ret
   rw[HP.out];refine⟨rfl,?_,by rw[<-HP.out];exact H.out.bl⟩;have h:=HM.out
   rwa [List.take_of_length_le (by have:=HNW.out;omega)] at h
end
end Go.Proofs.YtmfjmngebldanaaGreatDoor
