/- Vaf. -/
import Derived.Test.YtbcnkcldlealjaaGreatDoorQGVb34
import Derived.Test.YtbcnkcldlealjaaGreatDoorQGVb37
set_option maxRecDepth 100000
set_option maxHeartbeats 2000000
namespace Go.Proofs.YtbcnkcldlealjaaGreatDoor
open Go.Lib renaming hid→jq
section
open Go.RowKit Go.Shelf
attribute [local go_sem] Oper.semAt_some
attribute [local go_sem ↓] Qq QA ZaX
theorem Zf9{fs:List Fct}{f:Fct}:Yj fs f=if Yi fs≠0 then([],1) else if Qf f≠0 then([],Qf f) else if 1000<(QI fs f).length then([],4) else(QI fs f,0):=rfl
theorem Zh0{xs:List Fx}{key:List UInt8}:(xs.filter (fun x=> !(x.1.key==key))).map (·.1)=(xs.map (·.1)).filter (fun x=>x.key !=key):=by
 rw[List.filter_map];rfl
theorem Yz(A:Option Addr)(n c:Nat)(xs:List Fx)(f:Fct)(v:FaV)(w:World)(hp:Env w)(hnil:A=none->c=0)(hcap:n<=c)(hs:Fxs w w.1.size A n xs)(hn:n<=100000)(hf:FxM w w.1.size (f,v)):
 Calls Tryz.prog 31 #[.slice A n c,.agg (Qa f v)] w (FsPost (Yj (xs.map (·.1)) f).1 (Yj (xs.map (·.1)) f).2 w):=by
 have H:=jq ((Kp.start hp).new w.1.size rfl (Qa f v) 44);have hof:=Zf9 (fs:=xs.map (·.1)) (f:=f);have HCK:=jq (fun W (hb:Below w.1.size w W)=>Xw A n c xs W (hp.here hb) (hs.here hb) (by omega));have HFC:=jq (fun W (hb:Below w.1.size w W)=>Jq (hp.here hb) (hf.here hb));have HS:=jq hs;have HF:=jq hf;have HVO:=jq (fun h=>(XN (xs.map (·.1))).1 h);generalize Yi (xs.map (·.1))=lc at*;generalize Yj (xs.map (·.1)) f=res at*;generalize hpo:FsPost res.1 res.2 w=post;have HPO:=jq hpo;have hl0:=Qk (H.out.at_ 0 rfl) (Qe f v);clear hpo hs hp hf
 by_cases h0:lc=0
 case neg=>
  rw[if_pos h0] at hof;have HRS:=jq hof;have hz:(lc !=0)=true:=by simp[h0]
  clear hof h0;go_enter Tryz.func31,Tryz.ntmps31
  go_wp2_with fail
  refine(HCK.out _ H.out.bl).mono ?_;rintro e w1 ⟨rfl,hb1⟩;go_wp2_with fail
  first|go_ret2|skip
  rw[<-HPO.out,HRS.out];exact FsPost.empty (H.out.here hb1).bl
 rw[if_neg (by simpa using h0)] at hof;have HV:=jq (HVO.out h0);subst h0;clear HVO;go_enter Tryz.func31,Tryz.ntmps31
 go_wp2_with fail
 refine(HCK.out _ H.out.bl).mono ?_;rintro e w1 ⟨rfl,hb1⟩;have H1:=jq (H.out.here hb1);obtain⟨bf,hbf⟩:∃bf,w.1.size=bf:=⟨_,rfl⟩
 have HBF:=jq hbf;rw[hbf] at H1 ⊢;clear hl0 hb1 H HCK hbf;have hl1:=Qk (H1.out.at_ 0 rfl) (Qe f v);go_wp2_with fail
 refine(HFC.out _ H1.out.bl).mono ?_;rintro e w2 ⟨rfl,hb2⟩;have H2:=jq (H1.out.here hb2);have HZC:=jq (fun(h:Qf f=0) (hc:f.cancelled=false)=>ZaP h hc);clear hl1 hb2 H1 HFC
 by_cases hz:Qf f=0
 case neg=>
  rw[if_pos hz] at hof;have HRS:=jq hof;generalize Qf f=z at*;have hz0:(z !=0)=true:=by simp[hz]
  clear hof hz;go_wp2_with fail
  first|go_ret2|skip
  rw[<-HPO.out,HRS.out];exact FsPost.empty H2.out.bl
 rw[if_neg (by simpa using hz)] at hof;rw[hz];clear hz HZC;have HCL:=jq (Vz A n c xs w2 hnil hcap (HS.out.here H2.out.bl).sl (by omega));go_wp2_with fail
 refine HCL.out.mono ?_;rintro e w3 ⟨A3,c3,rfl,ho3,hb3⟩;have H3:=jq (H2.out.here hb3);have HO3:=jq ho3
 have hne3:(Value.slice A3 xs.length c3).ownBlock≠some bf:=fun e=>by
  obtain⟨_,_,_,_,_,_,h5⟩:=ho3.form
  have:=(h5 bf e).2.1
  have:=(H2.out.at_ 0 rfl).lt
  omega
 have HXL:=jq (show xs.length<=1000000 by have:=HS.out.len;omega);have HDL:=jq (Zf8 f v bf A3 xs.length c3 w2.1.size xs w3 ho3 (fun x hx=>((HS.out.here H3.out.bl).all x hx)) (H3.out.at_ 0 rfl) hne3 HXL.out);have HB23:=jq (show w2.1.size<=w3.1.size from hb3.size);clear HCL ho3 hb3;go_wp2_with fail
 refine HDL.out.mono ?_;rintro e w4 ⟨zs,rfl,hzs,ho4,hg4⟩
 have hob:∀r,(Value.slice A3 xs.length c3).ownBlock=some r->w2.1.size<=r:=fun r e=>by
  obtain⟨_,_,_,_,_,_,h5⟩:=HO3.out.form
  exact(h5 r e).2.1
 have hs23:w.1.size<=w2.1.size:=H2.out.bl.size;have hbl4:=H3.out.bl.trans (Qo hg4 H3.out.bl.size hs23 (fun r e=>hob r e));have hX4:BlkB w4 bf (Qa f v) 44:=(hg4.block bf (H3.out.at_ 0 rfl).lt (fun e=>hne3 e.symm)).trans (H3.out.at_ 0 rfl);have H4:=jq (show Kp w [(bf,Qa f v,44)] w4 from⟨H3.out.pow,hbl4,H3.out.own,H3.out.ord,fun b hb=>by rw[List.mem_singleton.1 hb];exact hX4⟩);have HO4:=jq ho4;have HZ4:=jq hzs
 have HM4:=jq (show ∀W,Below w.1.size w W->∀x∈zs,FxM W W.1.size x from fun W hb x hx=>by
  rw[hzs] at hx;exact(HS.out.here hb).all x (List.mem_filter.1 hx).1)
 have HM5:=jq (show ∀W,Below w.1.size w W->∀x∈zs,FxM W w.1.size x from fun W hb x hx=>by
  rw[hzs] at hx;exact(HS.out.all x (List.mem_filter.1 hx).1).below hb)
 have HFM:=jq (show zs.map (·.1)=(xs.map (·.1)).filter (fun x=>x.key !=f.key) by rw[hzs];exact Zh0);have HZL:=jq (show zs.length<=1000000 by rw[hzs];exact Nat.le_trans (List.length_filter_le _ _) HXL.out);have HNE4:=jq (show(Value.slice A3 zs.length c3).ownBlock≠some bf by cases A3<;>exact hne3);have HB24:=jq (show w.1.size<=w2.1.size/\w2.1.size<=w4.1.size from⟨hs23,Nat.le_trans HB23.out hg4.size⟩);have HFV:=jq (show ∀W,Below w.1.size w W->FxM W W.1.size (QE f,v) from fun W hb=>Zdx (HF.out.here hb));clear HDL hzs ho4 hg4 hob hs23 hbl4 hX4 hne3 H3 HO3 HB23;have y2:=H4.out.c 0 2 rfl (show(Qa f v)[2]?=some (.bool f.cancelled) from rfl);have hnx:QI (xs.map (·.1)) f=if f.cancelled=true then(xs.map (·.1)).filter (fun x=>x.key !=f.key) else VP (QE f) ((xs.map (·.1)).filter (fun x=>x.key !=f.key)):=rfl
 rw[<-HFM.out] at hnx
 cases hcn:f.cancelled with
 |true=>
  rw[hcn] at y2;rw[if_pos hcn] at hnx;rw[hnx,List.length_map] at hof
  by_cases hl:1000<zs.length
  ·rw[if_pos hl] at hof;have HRS:=jq hof;have hlz:(1000:Int)<(zs.length:Int):=by omega
   clear hof hnx hcn hl;go_wp2_with fail
   first|go_ret2|skip
   rw[<-HPO.out,HRS.out];exact FsPost.empty H4.out.bl
  ·rw[if_neg hl] at hof;have HRS:=jq hof;have hlz:¬(1000:Int)<(zs.length:Int):=by omega
   clear hof hnx hcn hl;go_wp2_with fail
   first|go_ret2|skip
   rw[<-HPO.out,HRS.out];exact⟨A3,c3,zs,rfl,⟨HO4.out.sl Qc,HM4.out _ H4.out.bl⟩,rfl,⟨HO4.out.room.1,HO4.out.room.2.1,fun a e=>Nat.le_trans HB24.out.1 (HO4.out.room.2.2 a e),HM5.out _ H4.out.bl⟩,H4.out.bl⟩
 |false=>
  rw[hcn] at y2;rw[if_neg (by rw[hcn];decide)] at hnx;have y1:=H4.out.c 0 1 rfl (show(Qa f v)[1]?=some (.int .i64 f.stamp) from rfl);have f1:=H4.out.f 0 1 rfl;have HS5:=jq (H4.out.set 0 1 rfl (.int .i64 0));have HO5:=jq (HO4.out.far (p:=⟨bf,1,none⟩) HNE4.out (.int .i64 0));simp only[List.set_cons_zero,Je] at HS5;have hs5:(w4.setCell ⟨bf,1,none⟩ (.int .i64 0)).heap.size=w4.1.size:=by simp
  have HB25:=jq (show w2.1.size<=(w4.setCell ⟨bf,1,none⟩ (.int .i64 0)).heap.size by rw[hs5];exact HB24.out.2)
  have HZN:=jq (show zs.length<=100000 by
   have h1:=congrArg List.length HFM.out;rw[List.length_map] at h1;have h2:=List.length_filter_le (fun x=>x.key !=f.key) (xs.map (·.1));rw[List.length_map] at h2;have:=HS.out.len
   omega)
  have HSR:=jq (show Srt (zs.map (·.1)) by rw[HFM.out];exact HV.out.srt.sublist List.filter_sublist)
  have HKN:=jq (show ∀g∈zs.map (·.1),g.key≠(QE f).key from fun g hg=>by
   rw[HFM.out] at hg;have h:=(List.mem_filter.1 hg).2;have h2:g.key≠f.key:=by simpa using h
   exact h2)
  have HBS:=jq (ZhZ A3 zs.length c3 zs (QE f) v _ HS5.out.pw ⟨HO5.out.sl Qc,HM4.out _ HS5.out.bl⟩ HZN.out HF.out.sz.kind HSR.out);have hl5:=Qk (HS5.out.at_ 0 rfl) (Qe (QE f) v);clear hs5 hcn;go_wp2_with fail
  generalize w4.setCell ⟨bf,1,none⟩ (.int .i64 0)=w5 at*;refine HBS.out.mono ?_;rintro e w6 ⟨i,b,rfl,hba,hb6⟩;have H6:=jq (HS5.out.here hb6);have HBA:=jq hba;have ho6:=HO5.out.below hb6;have hl6:=Qk (H6.out.at_ 0 rfl) (Qe (QE f) v);have hbf6:=Vj w6 (QE f) v
  have hne6:(Value.slice A3 zs.length c3).ownBlock≠some w6.1.size:=fun e=>by
   obtain⟨_,_,_,_,_,_,h5⟩:=ho6.form
   have:=(h5 _ e).2.2
   omega
  have H7:=jq (H6.out.alloc (.cells (Qa (QE f) v) 44));have HB27:=jq (show w2.1.size<=(w6.alloc (.cells (Qa (QE f) v) 44)).heap.size by have:=HB25.out;have:=hb6.size;simp;omega);have HIN:=jq (Zah A3 zs.length c3 i w6.1.size w2.1.size zs (QE f) v _ (ho6.alloc (.cells (Qa (QE f) v) 44)) (heap_alloc_new w6 _) hne6 (by have:=hba.len;rwa [List.length_map] at this) HZL.out HB27.out);clear hl5 HBS hba hb6 ho6 hne6 y1 f1 y2;go_wp2_with fail
  generalize w6.alloc (.cells (Qa (QE f) v) 44)=w7 at*;refine HIN.out.mono ?_;rintro e w8 ⟨A8,c8,rfl,ho8,hb8⟩;have HBL8:=jq (H7.out.bl.trans (hb8.mono HB24.out.1));have HO8:=jq ho8
  have HLM:=jq (show(zs.take i++(QE f,v)::zs.drop i).map (·.1)=QI (xs.map (·.1)) f by
   rw[hnx,Zfd HKN.out HBA.out,List.map_append,List.map_take,List.map_cons,List.map_drop])
  have HLL:=jq (show(zs.take i++(QE f,v)::zs.drop i).length=zs.length+1 by
   have:=HBA.out.len
   rw[List.length_map] at this;rw[List.length_append,List.length_cons,List.length_take,List.length_drop];omega)
  have HMM:=jq (show ∀x∈zs.take i++(QE f,v)::zs.drop i,FxM w8 w8.1.size x from fun x hx=>by
   rcases List.mem_append.1 hx with hx|hx
   ·exact HM4.out _ HBL8.out x (List.mem_of_mem_take hx)
   ·rcases List.mem_cons.1 hx with rfl|hx
    ·exact HFV.out _ HBL8.out
    ·exact HM4.out _ HBL8.out x (List.mem_of_mem_drop hx))
  have HMN:=jq (show ∀x∈zs.take i++(QE f,v)::zs.drop i,FxM w8 w.1.size x from fun x hx=>by
   rcases List.mem_append.1 hx with hx|hx
   ·exact HM5.out _ HBL8.out x (List.mem_of_mem_take hx)
   ·rcases List.mem_cons.1 hx with rfl|hx
    ·exact Zdx (HF.out.below HBL8.out)
    ·exact HM5.out _ HBL8.out x (List.mem_of_mem_drop hx))
  have hln:(QI (xs.map (·.1)) f).length=zs.length+1:=by rw[<-HLM.out,List.length_map,HLL.out]
  rw[hln] at hof;clear HIN ho8 hb8 hnx hln hl6 hbf6
  by_cases hl:1000<zs.length+1
  ·rw[if_pos hl] at hof;have HRS:=jq hof;have hlz:(1000:Int)<(zs.length:Int)+1:=by omega
   clear hof hl;go_wp2_with fail
   first|go_ret2|skip
   rw[<-HPO.out,HRS.out];exact FsPost.empty HBL8.out
  ·rw[if_neg hl] at hof;have HRS:=jq hof;have hlz:¬(1000:Int)<(zs.length:Int)+1:=by omega
   clear hof hl;go_wp2_with fail
   first|go_ret2|skip
   rw[<-HPO.out,HRS.out];refine⟨A8,c8,zs.take i++(QE f,v)::zs.drop i,by rw[HLL.out];rfl,⟨?_,HMM.out⟩,HLM.out,⟨(by have h:=HO8.out.room.1;exact h),HO8.out.room.2.1,fun a e=>Nat.le_trans HB24.out.1 (HO8.out.room.2.2 a e),HMN.out⟩,HBL8.out⟩;rw[HLL.out];exact HO8.out.sl Qc
end
end Go.Proofs.YtbcnkcldlealjaaGreatDoor
