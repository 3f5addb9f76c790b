/- Vms. -/
import Derived.Test.YtmfjmngebldanaaGreatDoorQGVe35
import Derived.Test.YtmfjmngebldanaaGreatDoorQGVe6
import Derived.Test.YtmfjmngebldanaaGreatDoorQGVe33
set_option maxRecDepth 100000
set_option maxHeartbeats 8000000
namespace Go.Proofs.YtmfjmngebldanaaGreatDoor
open Go.Lib renaming hid→jq
section
open Go.RowKit Go.Shelf
attribute [local go_sem] Oper.semAt_some
attribute [local go_sem ↓] Ql Qz
theorem SmB.kpx{w w':World}{b n:Nat}{m:List UInt8->Option Value}{E:Nat->Prop}{T:TypeId}{M:Nat}(h:SmB w b n m)(hk:KpX E T M w w')(he:¬E b):SmB w' b n m:=by
 obtain⟨D,⟨es,clock,h1,h2⟩,h3⟩:=h
 exact⟨D,⟨es,clock,hk.obj h1 he rfl,h2⟩,h3⟩
theorem Kp.lowK{w00 A B:World}(h:Kp w00 [] A)(hb:Below w00.1.size A B):Kp w00 [] B:=⟨h.pow,h.bl.trans hb,fun _ h=>by simp at h,.nil,fun _ h=>by simp at h⟩
theorem ZdH(l b:List Fct)(f:Fct):QW (l++[f]) b=QW l b++if QX b f.key=some f then[] else[f]:=by
 unfold QW;rw[List.filter_append]
 by_cases h:QX b f.key=some f<;>simp[h]
theorem ZmF{xs ys:List Fx}{k:Nat}{f:Fct}{u:FaV}{o:List (InE xs)}(h:Xu o=QW ((xs.take k).map (·.1)) (ys.map (·.1)))(hx:xs[k]?=some (f,u))(hl:QX (ys.map (·.1)) f.key=some f):Xu o=QW ((xs.take (k+1)).map (·.1)) (ys.map (·.1)):=by
 rw[ZcL hx,List.map_append,List.map_singleton,ZdH,if_pos hl,List.append_nil,h]
theorem Zfy{xs ys:List Fx}{k:Nat}{f:Fct}{u:FaV}{o:List (InE xs)}{y:InE xs}(h:Xu o=QW ((xs.take k).map (·.1)) (ys.map (·.1)))(hx:xs[k]?=some (f,u))(hl:QX (ys.map (·.1)) f.key≠some f)(hy:y.1=(f,u)):Xu (o++[y])=QW ((xs.take (k+1)).map (·.1)) (ys.map (·.1)):=by
 rw[ZcL hx,List.map_append,List.map_singleton,ZdH,if_neg hl,XU,h,hy]
theorem Vf(A A':Option Addr)(la ca lb cb:Nat)(w:World):
 Calls Tryz.prog 36 #[.slice A la ca,.slice A' lb cb] w fun e w'=>e=.returned (.func (.func 67) #[] #[.pointer (some ⟨w.1.size+1,0,none⟩),.pointer (some ⟨w.1.size,0,none⟩)])/\w'=(w.alloc (.cells #[.slice A la ca] 22)).alloc (.cells #[.slice A' lb cb] 22):=by
 go_enter Tryz.func36,Tryz.ntmps36
 go_wp2
 go_ret
 exact⟨rfl,rfl⟩
theorem JG(n:Nat)(hn:1<=n)(E:Nat->Prop)(T:TypeId)(M Ba Bb:Nat)(A A':Option Addr)(la ca lb cb:Nat)(xs ys:List Fx)(w00 w:World)(hp:Env w00)(h00:Below w00.1.size w00 w)
 (hBa:Box w Ba 22 (.slice A la ca)) (hBb:Box w Bb 22 (.slice A' lb cb)) (hx:Fxs w00 w00.1.size A la xs) (hy:Fxs w00 w00.1.size A' lb ys) (hl:la<=1000000) (hlb:lb<=1000000)
 (hEw:∀b,E b->b<w.1.size) (hE0:∀b,b<w00.1.size->¬E b) (hM:w00.1.size<=M):
 ZmB Fence.wide n Tryz.prog 67 #[.pointer (some ⟨Bb,0,none⟩),.pointer (some ⟨Ba,0,none⟩)] (fun z:InE xs=>#[.agg (Qb z.1.1 z.1.2)]) E T M (fun out=>Xu out=QW (xs.map (·.1)) (ys.map (·.1))) xs.length w:=fun l J Jx W hW hlw hlt hJ hJx hY h0=>by
 have HK0:=jq ((Kp.start hp).lowK (h00.trans (hW.mono h00.size)));have HBA:=jq (hBa.here hW);have HBB:=jq (hBb.here hW);have cbb:=HBB.out.cell;have HBK:=jq (ZiG A' lb cb ys W HK0.out.pw ((hy.below HK0.out.bl).more HK0.out.bl.size) hlb);have HX:=jq hx;have HYS:=jq hy;have HLE:=jq hx.len;have HJ:=jq hJ;have HY:=jq hY;have H0:=jq h0;have HM0:=jq hM;have hws:=hW.size;have h0s:=h00.size
 have HEX:=jq (show ∀b,b<w00.1.size->¬(E b\/b=l) from fun b hb e=>by
  rcases e with e|e
  ·exact hE0 b hb e
  ·omega)
 have HEP:=jq (show ¬(E W.1.size\/W.1.size=l) from fun e=>by
  rcases e with e|e
  ·have:=hEw _ e;omega
  ·omega)
 have HWS:=jq (show w00.1.size<=W.1.size by omega);clear hBa hBb hx hy hW hJ hJx hY h0 h00 hE0 hEw hM hlw hlt hp hws h0s;refine callsIn_of_wp Tryz.func67 rfl trivial ?_ rfl;simp only[Tryz.ntmps67,List.size_toArray,List.length_cons,List.length_nil,Nat.reduceAdd,Nat.reduceSub,Array.replicate_succ,Array.replicate_zero,List.push_toArray,List.append_toArray,List.nil_append,List.cons_append]
 gi_wp2_with (first|(refine⟨trivial,fun _=>by omega,(callsIn_wide.2 HBK.out).mono ?_⟩)|(refine⟨trivial,(callsIn_wide.2 HBK.out).mono ?_⟩);rintro e w1 ⟨rfl,hsm,hb1⟩;have ca1:=(HBA.out.here hb1).cell)
 obtain⟨p,hpw⟩:∃p,W.1.size=p:=⟨_,rfl⟩
 rw[hpw] at hsm ⊢;have HEP2:=jq (show ¬(E p\/p=l) from hpw▸HEP.out);have HSM:=jq hsm;have HJ1:=jq (HJ.out _ _ _ _ H0.out (JX hb1) (fun r e=>by cases e));have HK1:=jq (HK0.out.here hb1);have HSZ1:=jq (show p<=w1.1.size from hpw▸hb1.size);clear hsm hb1 hpw cbb
 gi_loopw [6,7,8,13] (fun _ _ _ j wr=>∃(k:Nat) (o:List (InE xs)),k<=la/\j=.int .i64 k/\Hid (Xu o=QW ((xs.take k).map (·.1)) (ys.map (·.1))/\o.length<=k)/\Hid (J o wr)/\Hid (Kp w00 [] wr)/\Hid (SmB wr p lb (ZgD ys))/\Hid (p<=wr.1.size)) (fun _ _ _ j _=>la-(intOf j).toNat)
 case atStart=>exact⟨0,[],Nat.zero_le _,rfl,⟨rfl,Nat.le_refl _⟩,HJ1,HK1,HSM,HSZ1⟩
 case round=>
  clear HSM HK1 HJ1 HSZ1 ca1;obtain⟨k,o,hk,rfl,HO,HJO,HK,HSM,HSZ⟩:=hrel
  by_cases hlt:k<la
  ·obtain⟨b,off,f,u,rfl,hb,hx,hm,hr⟩:=(HX.out.below HK.out.bl).at_ hlt
   have hmem:(f,u)∈xs:=List.mem_of_getElem? hx;have hkl:f.key.length<=maxLen:=by have:=hm.sz.key;unfold maxLen;simp only at this;omega
   have hlk0:=(HSM.out.alloc (.cells (Qb f u) 43)).lookOk (t:=94) Tryz.underlying94 (ZmE _) (k:=f.key) hkl
   obtain⟨g,v,is,hlk,HIS⟩:∃g v is,(Instr.lookup 94 (.map (some p)) (.string ⟨f.key.toArray⟩) true).run Tryz.prog (wr.alloc (.cells (Qb f u) 43))=.ok (.tuple #[.agg (Qb g v),.bool is]) (wr.alloc (.cells (Qb f u) 43))/\Hid (ZcK ys f.key=if is=true then some (g,v) else none):=by
    unfold ZgD at hlk0
    cases hq:ZcK ys f.key with
    |none=>rw[hq] at hlk0;exact⟨f00,Qx,false,hlk0,rfl⟩
    |some z=>obtain⟨g,v⟩:=z;rw[hq] at hlk0;exact⟨g,v,true,hlk0,rfl⟩
   clear hlk0;have hld:=Qi hr;have hst:=fun cs (hc:cs.size=21)=>QB wr f u (cs:=cs) hc
   have hB1:=(Below.refl wr.1.size wr).alloc (Nat.le_refl _) (.cells (Qb f u) 43);have hst2:=fun cs (hc:cs.size=21)=>QB (wr.alloc (.cells (Qb f u) 43)) g v (cs:=cs) hc
   have HK1:=jq ((HK.out.new wr.1.size rfl (Qb f u) 43).new (wr.1.size+1) (by simp) (Qb g v) 43);have HM1:=jq ((hm.more HK.out.bl.size).here (hB1.alloc (by simp) (.cells (Qb g v) 43)))
   have HM2:=jq (show is=true->FxM ((wr.alloc (.cells (Qb f u) 43)).alloc (.cells (Qb g v) 43)) ((wr.alloc (.cells (Qb f u) 43)).alloc (.cells (Qb g v) 43)).heap.size (g,v) from fun e=>by
    have h:=HIS.out;rw[if_pos e] at h;exact(((HYS.out.all _ (ZiF h)).below HK.out.bl).more HK.out.bl.size).here (hB1.alloc (by simp) (.cells (Qb g v) 43)))
   have HS1:=jq ((HSM.out.alloc (.cells (Qb f u) 43)).alloc (.cells (Qb g v) 43));have HJ1:=jq (OwnFrom.alloc HJ.out (.cells (Qb g v) 43) (OwnFrom.alloc HJ.out (.cells (Qb f u) 43) HJO.out));have HSZ1:=jq (show p<=((wr.alloc (.cells (Qb f u) 43)).alloc (.cells (Qb g v) 43)).heap.size by have:=HSZ.out;simp;omega);have HX1:=jq hx;have HML:=jq hmem;have HOL:=jq (show o.length<xs.length by have:=HO.out.2;have:=HLE.out;omega);have c0:=(heap_alloc_new wr (.cells (Qb f u) 43));have q0:=(show BlkB (wr.alloc (.cells (Qb f u) 43)) wr.1.size (Qb f u) 43 from c0).cell 0 (show(Qb f u)[0]?=some (.string ⟨f.key.toArray⟩) from rfl);have hl1:=Qj (HK1.out.at_ 1 rfl) (Qg f u);have hl2:=Qj (HK1.out.at_ 0 rfl) (Qg g v);have i1:(0:Int)<=(k:Int):=by omega
   have i2:(k:Int)<(la:Int):=by omega
   simp only[World.size_alloc] at hst2;clear hx hr hb hm hB1 hmem hkl c0
   cases is with
   |false=>
    have HLK:=jq (show QX (ys.map (·.1)) f.key≠some f by rw[Zbe,HIS.out];simp);obtain⟨fn,tmps,assign,body,hyd,hR⟩:=HY.out o ⟨(f,u),HML.out⟩ _ HJ1.out HOL.out
    dsimp only at hyd
    have HR:=jq hR;clear hR
    gi_wp2
    refine⟨trivial,?_⟩
    gi_wp2
    refine HR.out.mono ?_;rintro e W5 (⟨rfl,hJ5,hk5⟩|⟨rfl,hJ5,hk5⟩)
    ·have HJ5:=jq hJ5;have HK5:=jq hk5;clear hJ5 hk5
     gi_wp2
     go_roundw
     case rel=>exact⟨k+1,o++[⟨(f,u),HML.out⟩],by omega,by go_num,⟨Zfy HO.out.1 HX1.out HLK.out rfl,by rw[List.length_append];exact Nat.succ_le_succ HO.out.2⟩,HJ5,HK1.out.bare.lowK (HK5.out.low HM0.out HK1.out.bl.size HEX.out),HS1.out.kpx HK5.out HEP2.out,(show _<=_ from Nat.le_trans HSZ1.out HK5.out.size)⟩
     case measure=>simp[intOf];omega
    ·have HJ5:=jq hJ5;clear hJ5
     gi_wp2
     refine bodyPost_ret (results_none rfl _ _ _) rfl ?_;exact⟨⟨_,rfl⟩,.inr ⟨_,HJ5.out⟩⟩
   |true=>
    have HC:=jq (Zdg f g u v _ HK1.out.pw HM1.out (HM2.out rfl))
    by_cases hfg:f=g
    ·have HLK:=jq (show QX (ys.map (·.1)) f.key=some f by rw[Zbe,HIS.out,hfg];rfl);rw[decide_eq_true hfg] at HC;clear hfg
     gi_wp2
     first|(refine⟨trivial,fun _=>by omega,(callsIn_wide.2 HC.out).mono ?_⟩)|(refine⟨trivial,(callsIn_wide.2 HC.out).mono ?_⟩)
     rintro e w3 ⟨rfl,hb3⟩
     gi_wp2
     refine⟨fun _ h=>(by cases h),?_⟩
     gi_wp2
     go_roundw
     case rel=>exact⟨k+1,o,by omega,by go_num,⟨ZmF HO.out.1 HX1.out HLK.out,Nat.le_succ_of_le HO.out.2⟩,HJ.out _ _ _ _ HJ1.out (JX hb3) (fun r e=>by cases e),(HK1.out.here hb3).bare,HS1.out.here hb3,(show _<=_ from Nat.le_trans HSZ1.out hb3.size)⟩
     case measure=>simp[intOf];omega
    ·have HLK:=jq (show QX (ys.map (·.1)) f.key≠some f by rw[Zbe,HIS.out];simp;exact fun e=>hfg e.symm);rw[decide_eq_false hfg] at HC;clear hfg
     gi_wp2
     first|(refine⟨trivial,fun _=>by omega,(callsIn_wide.2 HC.out).mono ?_⟩)|(refine⟨trivial,(callsIn_wide.2 HC.out).mono ?_⟩)
     rintro e w3 ⟨rfl,hb3⟩;have hl3:=Qj ((HK1.out.here hb3).at_ 1 rfl) (Qg f u);have HK2:=jq (HK1.out.here hb3);have HS2:=jq (HS1.out.here hb3);have HSZ2:=jq (Nat.le_trans HSZ1.out hb3.size);obtain⟨fn,tmps,assign,body,hyd,hR⟩:=HY.out o ⟨(f,u),HML.out⟩ _ (HJ.out _ _ _ _ HJ1.out (JX hb3) (fun r e=>by cases e)) HOL.out
     dsimp only at hyd
     have HR:=jq hR;clear hR hb3
     gi_wp2
     refine HR.out.mono ?_;rintro e W5 (⟨rfl,hJ5,hk5⟩|⟨rfl,hJ5,hk5⟩)
     ·have HJ5:=jq hJ5;have HK5:=jq hk5;clear hJ5 hk5
      gi_wp2
      go_roundw
      case rel=>exact⟨k+1,o++[⟨(f,u),HML.out⟩],by omega,by go_num,⟨Zfy HO.out.1 HX1.out HLK.out rfl,by rw[List.length_append];exact Nat.succ_le_succ HO.out.2⟩,HJ5,HK2.out.bare.lowK (HK5.out.low HM0.out HK2.out.bl.size HEX.out),HS2.out.kpx HK5.out HEP2.out,(show _<=_ from Nat.le_trans HSZ2.out HK5.out.size)⟩
      case measure=>simp[intOf];omega
     ·have HJ5:=jq hJ5;clear hJ5
      gi_wp2
      refine bodyPost_ret (results_none rfl _ _ _) rfl ?_;exact⟨⟨_,rfl⟩,.inr ⟨_,HJ5.out⟩⟩
  ·obtain rfl:k=la:=by omega
   gi_wp2
   go_end0
   exact⟨⟨_,rfl⟩,.inl ⟨o,(show _=_ by have h:=HO.out.1;rwa [List.take_of_length_le (by have:=HLE.out;omega)] at h),HJO.out⟩⟩
end
end Go.Proofs.YtmfjmngebldanaaGreatDoor
