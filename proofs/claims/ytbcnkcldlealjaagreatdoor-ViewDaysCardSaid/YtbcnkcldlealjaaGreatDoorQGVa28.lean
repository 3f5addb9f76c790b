/- Vaw, Vby. -/
import Derived.Test.YtbcnkcldlealjaaGreatDoorQGVa38
import Derived.Test.YtbcnkcldlealjaaGreatDoorQGVa20
set_option maxRecDepth 100000
set_option maxHeartbeats 4000000
namespace Go.Proofs.YtbcnkcldlealjaaGreatDoor
open Go.Lib renaming hid→jq
open Go.RowKit Go.Shelf
section
attribute [local go_sem] Oper.semAt_some
attribute [local go_sem ↓] Qr QC
theorem QT(key:List UInt8)(stamp day:Int)(w:World):
 Calls Tryz.prog 42 #[.string ⟨key.toArray⟩,.int .i64 stamp,.int .i64 day] w fun e w'=>e=.returned (.agg (Qb (XH key stamp day) Qj))/\Below w.1.size w w':=by
 have hst:=fun cs (hc:cs.size=21)=>Qh w (XH key stamp day) Qj (cs:=cs) hc
 have HB:=jq ((Below.refl w.1.size w).alloc (Nat.le_refl _) (.cells (Qb (XH key stamp day) Qj) 44));have hld:=Qm (show BlkB (w.alloc (.cells (Qb (XH key stamp day) Qj) 44)) w.1.size _ 44 from heap_alloc_new w _) (Qe _ _);simp only[Qb,XH,Qj] at hst hld;go_enter Tryz.func42,Tryz.ntmps42
 go_wp2_with fail
 refine bodyPost_ret (v:=.agg (Qb (XH key stamp day) Qj)) ((results_cell_row rfl _ _ w.1.size 44 (Qb (XH key stamp day) Qj) (0,0) _ rfl (heap_alloc_new w _) Tryz.underlying44 rfl (by rw[Qe];kernel_rfl)).trans rfl) rfl ?_;exact⟨rfl,HB.out⟩
end
section
attribute [local go_sem] Oper.semAt_some
attribute [local go_sem ↓] Qr QC
def f00:Fct:=⟨[],0,false,0,0,[],[],[],[],[],[],[],⟨[],[]⟩,⟨[],[]⟩,⟨[],[]⟩,[],[],0⟩
theorem Zh5(w:World):(zeroValue 44).run Tryz.prog w=.ok (.agg (Qb f00 Qj)) w:=by
 obtain⟨i,hi,hz⟩:∃i,Tryz.prog.info? 44=some i/\i.zero=some (.agg (Qb f00 Qj)):=by
  have h:(Tryz.prog.info? 44).bind (fun i=>i.zero)=some (.agg (Qb f00 Qj)):=by kernel_rfl
  cases hq:Tryz.prog.info? 44 with
  |none=>rw[hq] at h;cases h
  |some i=>rw[hq] at h;exact⟨i,rfl,h⟩
 simp[zeroValue,typeInfo,hi,hz]
def ZaF(l:List Fx)(k:List UInt8):Option Fx:=l.reverse.find? fun x=>x.1.key==k
def ZdF(l:List Fx)(k:List UInt8):Option Value:=(ZaF l k).map fun x=>.agg (Qb x.1 x.2)
theorem Ze5(l:List Fx)(f:Fct)(v:FaV):(fun j=>if j=f.key then some (.agg (Qb f v)) else ZdF l j)=ZdF (l++[(f,v)]):=by
 funext j
 unfold ZdF ZaF;rw[List.reverse_append,List.reverse_singleton,List.singleton_append,List.find?_cons]
 by_cases h:j=f.key
 ·subst h;rw[if_pos rfl];simp
 ·rw[if_neg h];have h2:(f.key==j)=false:=beq_false_of_ne fun e=>h e.symm
  simp[h2]
theorem Js(l:List Fx)(k:List UInt8):Xm (l.map (·.1)) k=(ZaF l k).map (·.1):=by
 unfold Xm ZaF;rw[<-List.map_reverse,List.find?_map];rfl
theorem Ze6{l:List Fx}{k:List UInt8}{x:Fx}(h:ZaF l k=some x):x∈l:=List.mem_reverse.1 (List.mem_of_find?_eq_some h)
theorem ZaG{xs:List Fx}{k:Nat}{x:Fx}(h:xs[k]?=some x):xs.take (k+1)=xs.take k++[x]:=by rw[List.take_add_one,h];rfl
theorem Ze7(A:Option Addr)(n c:Nat)(xs:List Fx)(w:World)(hp:Env w)(hs:Fxs w w.1.size A n xs)(hn:n<=1000000):
 Calls Tryz.prog 88 #[.slice A n c] w fun e w'=>e=.returned (.map (some w.1.size))/\SmB w' w.1.size n (ZdF xs)/\Below w.1.size w w':=by
 have HS:=jq hs;have HNW:=jq hs.len;have H:=jq (Kp.start hp);clear hs hp;have hmm:= @run_makeMap Tryz.prog;have HM:=jq (Zh4 w);have H1:=jq (H.out.alloc (.map #[] 0));clear H;go_enter Tryz.func88,Tryz.ntmps88
 go_wp2_with fail
 generalize hW:w.alloc (.map #[] 0)=W at*;obtain⟨p,hpw⟩:∃p,w.1.size=p:=⟨_,rfl⟩
 rw[hpw] at HM ⊢;have HP:=jq hpw;clear hpw hW
 go_loopw [5,9] (fun _ i wr=>∃(k:Nat),k<=n/\i=.int .i64 k/\Hid (Kp w [] wr)/\Hid (SmB wr p k (ZdF (xs.take k)))) (fun _ i _=>n-(intOf i).toNat)
 case atStart=>exact⟨0,Nat.zero_le _,rfl,H1,HM⟩
 case round=>
  clear H1 HM;obtain⟨k,hk,rfl,H,HM⟩:=hrel
  by_cases hlt:k<n
  ·obtain⟨b,off,f,v,rfl,hb,hx,hm,hr⟩:=(HS.out.below H.out.bl).at_ hlt
   have hld:=Ql hr;have hst:=fun cs (hc:cs.size=21)=>Qh wr f v (cs:=cs) hc
   have HX:=jq hx;have HB:=jq (H.out.new wr.1.size rfl (Qb f v) 44);have HM2:=jq (HM.out.alloc (.cells (Qb f v) 44));have HKL:=jq (show f.key.length<=maxLen/\k<maxLen by have:=hm.sz.key;unfold maxLen;simp only at this;omega);clear hx hr hb hm HM;go_upto_region 5 with (fail)
   generalize wr.alloc (.cells (Qb f v) 44)=W1 at*;clear hld hst;generalize hbb:wr.1.size=b1 at*;clear hbb H;have hl1:=Qm (HB.out.at_ 0 rfl) (Qe f v);have c0:=HB.out.c 0 0 rfl (show(Qb f v)[0]?=some (.string ⟨f.key.toArray⟩) from rfl);obtain⟨W3,hput,HM3,hg⟩:=HM2.out.put (t:=116) Tryz.underlying116 HKL.out.2 (k:=f.key) HKL.out.1 (.agg (Qb f v))
   have HK3:=jq (HB.out.bare.turn hg (by have:=HP.out;omega));have HM4:=jq HM3;clear HM3 hg;go_wp2_with fail
   go_roundw
   case rel=>exact⟨k+1,by omega,by go_num,HK3,(show SmB _ _ _ _ by rw[ZaG HX.out,<-Ze5];exact HM4.out)⟩
   case measure=>simp[intOf];omega
  ·obtain rfl:k=n:=by omega
   go_wp2_with fail
   go_ret
   rw[HP.out];refine⟨rfl,?_,by rw[<-HP.out];exact H.out.bl⟩;have h:=HM.out
   rwa [List.take_of_length_le (by have:=HNW.out;omega)] at h
end
end Go.Proofs.YtbcnkcldlealjaaGreatDoor
