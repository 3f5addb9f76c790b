/- R1. -/
import Derived.Test.YtpnncoinlopndaaGreatDoorQGSm1
import Derived.Deep.DeepCutAuto
set_option maxRecDepth 20000
set_option maxHeartbeats 1000000
namespace Go.Proofs.YtpnncoinlopndaaGreatDoor
open Go.Lib renaming hid→hdz
section
open Go.RowKit Go.Shelf
theorem ZjV(l:List UInt8)(a b:Nat):(⟨l.toArray⟩:ByteArray).extract a b=⟨((l.take b).drop a).toArray⟩:=by
 apply ByteArray.ext
 rw[ByteArray.data_extract,List.extract_toArray,List.extract_eq_take_drop,List.drop_take]
theorem Zeu{l:List UInt8}{k:Nat}{b:UInt8}(h:l[k]?=some b)(hk:k<(⟨l.toArray⟩:ByteArray).size):(⟨l.toArray⟩:ByteArray)[k]=b:=by
 obtain⟨h1,rfl⟩:=List.getElem?_eq_some_iff.1 h
 rfl
theorem ZjW(b:UInt8)(t:List UInt8)(n:Nat)(hn:n=t.length+1):(⟨(b::t).toArray⟩:ByteArray).extract 1 n=⟨t.toArray⟩:=by
 rw[ZjV,hn,List.take_of_length_le (by simp)]
 rfl
theorem Znd(b:UInt8)(t:List UInt8):Lib.hasPrefix (b::t) [45]=(b==45):=by
 unfold Lib.hasPrefix
 simp only[List.isPrefixOf,Bool.and_true]
 exact Bool.beq_comm
theorem ZmL(b:UInt8)(t:List UInt8):Lib.trimPrefix (b::t) [45]=if b==45 then t else b::t:=by
 unfold Lib.trimPrefix
 rw[Znd]
 rfl
theorem Zl9(b:UInt8)(k:Nat)(hk:k<256):((b.toNat:Int)==(k:Int))=(b==UInt8.ofNat k):=by
 rw[Bool.eq_iff_iff]
 simp only[beq_iff_eq]
 constructor
 ·intro h
  apply UInt8.toNat_inj.1
  rw[UInt8.toNat_ofNat']
  omega
 ·intro h
  rw[h,UInt8.toNat_ofNat']
  omega
theorem ZhP{s:List UInt8}{k:Nat}{b:UInt8}(h:s[k]?=some b)(ha:(s.take k).all isDig=true)(hb:isDig b=true):(s.take (k+1)).all isDig=true:=by
 obtain⟨hk,rfl⟩:=List.getElem?_eq_some_iff.1 h
 rw[List.take_succ_eq_append_getElem hk,List.all_append,ha]
 simpa using hb
theorem ZjX{s:List UInt8}{k:Nat}{b:UInt8}(h:s[k]?=some b)(hb:¬isDig b=true):s.all isDig=false:=by
 rw[Bool.eq_false_iff]
 intro h2
 rw[List.all_eq_true] at h2
 exact hb (h2 b (List.mem_of_getElem? h))
theorem Zax(a:List UInt8)(w:World)(ha:a.length≤1000000000):
 Calls Tryz.prog 115 #[S a] w fun e w'=>e=.returned (.tuple #[S (digL a).1,.bool (digL a).2])∧w=w':=by
 have HDG:=hdz (show digL a=if(Lib.trimPrefix a [45]).all isDig then((Lib.trimPrefix a [45]).dropWhile (·==48),Lib.hasPrefix a [45]&& !((Lib.trimPrefix a [45]).dropWhile (·==48)).isEmpty) else([],false) from rfl)
 have hl:=Zbx a [45]
 obtain⟨s,hs⟩:∃s,Lib.trimPrefix a [45]=s:=⟨_,rfl⟩
 obtain⟨neg,hn⟩:∃neg,Lib.hasPrefix a [45]=neg:=⟨_,rfl⟩
 rw[hs,hn] at HDG
 rw[hs] at hl
 have HS:=hdz hs;have HN:=hdz hn;clear hs hn
 unfold S at*
 go_enter Tryz.func115,Tryz.ntmps115
 go_upto_region 2 with (fail)
 go_cut [5] (fun v wc=>v=.bool neg∧wc=w)
 case first=>
  cases a with
  |nil=>
   go_wp2
   go_meet
   exact⟨by rw[←HN.out];rfl,rfl⟩
  |cons b t=>
   have h0:0<(⟨(b::t).toArray⟩:ByteArray).size:=by rw[Zag];simp
   have hb:(⟨(b::t).toArray⟩:ByteArray)[0]=b:=Zeu rfl h0
   go_wp2
   go_meet
   exact⟨by rw[←HN.out,Znd];exact congrArg Value.bool (Zl9 b 45 (by omega)),rfl⟩
 case rest=>
 obtain⟨rfl,rfl⟩:=hcut
 go_upto_if 16 with (fail)
 go_cut [4] (fun v w1=>v=.string ⟨s.toArray⟩∧w1=wc)
 case first=>
  cases a with
  |nil=>
   obtain rfl:false=neg:=HN.out
   obtain rfl:[]=s:=HS.out
   go_wp2
   go_meet
   exact⟨rfl,rfl⟩
  |cons b t=>
   have hlen:(⟨(b::t).toArray⟩:ByteArray).size=t.length+1:=by rw[Zag];rfl
   have HLE:=hdz hlen
   cases neg with
   |true=>
    have HT:=hdz (show t=s by have h1:=HS.out;have h2:=HN.out;rw[Znd] at h2;rw[ZmL,h2] at h1;exact h1)
    go_wp2
    go_meet
    exact⟨by rw[←HT.out,ZjW b t _ rfl],rfl⟩
   |false=>
    have HT:=hdz (show b::t=s by have h1:=HS.out;have h2:=HN.out;rw[Znd] at h2;rw[ZmL,h2] at h1;exact h1)
    clear hlen
    go_wp2
    go_meet
    exact⟨by rw[←HT.out],rfl⟩
 case rest=>
 obtain⟨rfl,rfl⟩:=hcut
 have hsl:s.length≤1000000000:=by omega
 clear hl ha HS HN
 go_wp2
 go_loop [6] (fun i=>∃k:Nat,k≤s.length∧i=.int .i64 k∧Hid ((s.take k).all isDig=true)) (fun i=>s.length-(intOf i).toNat)
 case atStart=>exact⟨0,Nat.zero_le _,rfl,by show _=_;rfl⟩
 case round=>
  obtain⟨k,hk,rfl,HA⟩:=hrel
  by_cases hlt:k<s.length
  ·obtain⟨b,hb⟩:∃b,s[k]?=some b:=⟨_,List.getElem?_eq_getElem hlt⟩
   have hks:k<(⟨s.toArray⟩:ByteArray).size:=by rw[Zag];exact hlt
   have hbk:(⟨s.toArray⟩:ByteArray)[k]=b:=Zeu hb hks
   have HB:=hdz hb;clear hb
   by_cases hd:isDig b=true
   ·have HST:=hdz (ZhP HB.out HA.out hd)
    obtain⟨h1,h2⟩:=(Zao b).1 hd
    clear hd
    go_wp2
    all_goals first
     |(go_round
       case rel=>exact⟨k+1,by omega,by go_num,HST⟩
       case measure=>simp[intOf];omega)
     |(exfalso;omega)
   ·have HF:=hdz (ZjX HB.out hd)
    have hnd:b.toNat<48∨57<b.toNat:=by
     rw[Zao] at hd;omega
    clear hd
    rcases hnd with hnd|hnd
    all_goals
     go_wp2
     go_ret2
     rw[HDG.out,HF.out]
     exact⟨rfl,rfl⟩
  ·have HALL:=hdz (show s.all isDig=true by have:=HA.out;rwa [List.take_of_length_le (by omega)] at this)
   rw[HALL.out] at HDG
   simp only[if_true] at HDG
   go_wp2
   go_loop [4] (fun v=>∃t:List UInt8,v=.string ⟨t.toArray⟩∧t.length≤1000000000∧Hid (s.dropWhile (·==48)=t.dropWhile (·==48))) (fun v=>match v with| .string b=>b.size|_=>0)
   case atStart=>exact⟨s,rfl,hsl,by show _=_;rfl⟩
   case round=>
    obtain⟨t,rfl,htl,HD⟩:=hrel
    cases t with
    |nil=>
     cases neg<;>(
      go_wp2
      go_ret2
      rw[HDG.out,HD.out]
      exact⟨rfl,rfl⟩)
    |cons b t=>
     have hlen:(⟨(b::t).toArray⟩:ByteArray).size=t.length+1:=by rw[Zag];rfl
     have h0:0<(⟨(b::t).toArray⟩:ByteArray).size:=by rw[Zag];simp
     have hb:(⟨(b::t).toArray⟩:ByteArray)[0]=b:=Zeu rfl h0
     have HU:=hdz (show((b.toNat:Int)==48)=(b==48) from Zl9 b 48 (by omega))
     cases hz:(b==48) with
     |true=>
      rw[hz] at HU
      have hu:=HU.out
      have HD2:=hdz (show s.dropWhile (·==48)=t.dropWhile (·==48) by rw[HD.out,List.dropWhile_cons,hz];rfl)
      have HTM:=hdz (ZjW b t (t.length+1) rfl)
      clear hz
      go_wp2
      go_round
      case rel=>exact⟨t,by rw[HTM.out],by simp at htl;omega,HD2⟩
      case measure=>rw[HTM.out];show(⟨t.toArray⟩:ByteArray).size<(⟨(b::t).toArray⟩:ByteArray).size;rw[Zag,Zag];simp
     |false=>
      rw[hz] at HU
      have hu:=HU.out
      have HD2:=hdz (show s.dropWhile (·==48)=b::t by rw[HD.out,List.dropWhile_cons,hz];rfl)
      have hte3:(!(⟨(b::t).toArray⟩:ByteArray).toList.isEmpty)=true:=by rw[Lib.toList_data];rfl
      clear hz
      cases neg<;>(
       go_wp2
       go_ret2
       rw[HDG.out,HD2.out]
       exact⟨rfl,rfl⟩)
theorem ZmM(a:List UInt8):valD (digL a).1=(val a).natAbs:=by
 unfold val
 split<;>omega
theorem Za3(a:List UInt8)(w:World)(ha:a.length≤1000000000):Calls Tryz.prog 114 #[S a] w fun e w'=>e=.returned (S (txtL (val a)))∧w=w':=by
 have H:=hdz (Zax a w ha)
 have hl:=ZaH a
 have HC:=hdz (show txtL (val a)=if(digL a).2 then 45::(digL a).1 else(digL a).1 by rw[←Zd1];rfl)
 have hl2:(digL a).1.length≤1000000000:=by omega
 clear hl ha
 generalize txtL (val a)=res at*
 generalize (digL a).1=t at*
 generalize (digL a).2=neg at*
 unfold S at*
 cases neg with
 |true=>
  have hsz:(⟨t.toArray⟩:ByteArray).size≤1000000000:=by rw[Zag];exact hl2
  go_enter Tryz.func114,Tryz.ntmps114
  go_wp2_with (go_at_call 115;refine H.out.mono ?_;rintro e w1 ⟨rfl,rfl⟩)
  go_ret
  rw[HC.out]
  exact⟨congrArg (fun b=>Ending.returned (.string b)) (ByteArray.mk_append_mk [45] t),rfl⟩
 |false=>
  go_enter Tryz.func114,Tryz.ntmps114
  go_wp2_with (go_at_call 115;refine H.out.mono ?_;rintro e w1 ⟨rfl,rfl⟩)
  go_ret
  rw[HC.out]
  exact⟨by simp,rfl⟩
theorem ZdU(a:List UInt8)(w:World)(ha:a.length≤1000000000):Calls Tryz.prog 92 #[S a] w fun e w'=>e=.returned (S (txtL (-val a)))∧w=w':=by
 have H:=hdz (Zax a w ha)
 have hl:=ZaH a
 have hl2:(digL a).1.length≤1000000000:=by omega
 have HD:=hdz (Zhp a);have HN:=hdz (Zff a)
 have HC:=hdz (show txtL (-val a)=if(digL a).2||((digL a).1==[]) then(digL a).1 else 45::(digL a).1 by
  rw[Zbh,Int.natAbs_neg,←HD.out,HN.out]
  by_cases h1:val a<0
  ·rw[if_neg (by omega)];simp[h1]
  ·by_cases h0:val a=0
   ·have:(digL a).1=[]:=by rw[HD.out,h0];rfl
    rw[this];simp[h0]
   ·have:(digL a).1≠[]:=fun h=>by
     have h2:=ZmM a
     rw[h] at h2
     simp[valD] at h2
     omega
    rw[if_pos (by omega)]
    simp[h1,this])
 clear hl ha HD HN
 generalize txtL (-val a)=res at*
 generalize (digL a).1=t at*
 generalize (digL a).2=neg at*
 unfold S at*
 have hsz:(⟨t.toArray⟩:ByteArray).size≤1000000000:=by rw[Zag];exact hl2
 cases neg with
 |true=>
  go_enter Tryz.func92,Tryz.ntmps92
  go_wp2_with (go_at_call 115;refine H.out.mono ?_;rintro e w1 ⟨rfl,rfl⟩)
  go_ret
  rw[HC.out]
  exact⟨by simp,rfl⟩
 |false=>
  cases ht:(t==[]) with
  |true=>
   rw[ht] at HC
   obtain rfl:t=[]:=eq_of_beq ht
   clear ht
   go_enter Tryz.func92,Tryz.ntmps92
   go_wp2_with (go_at_call 115;refine H.out.mono ?_;rintro e w1 ⟨rfl,rfl⟩)
   go_ret
   rw[HC.out]
   exact⟨by simp,rfl⟩
  |false=>
   rw[ht] at HC
   have hte:t.isEmpty=false:=by cases t with|nil=>simp at ht|cons _ _=>rfl
   have hte2:(⟨t.toArray⟩:ByteArray).toList.isEmpty=false:=by rw[Lib.toList_data];simpa using hte
   go_enter Tryz.func92,Tryz.ntmps92
   go_wp2_with (go_at_call 115;refine H.out.mono ?_;rintro e w1 ⟨rfl,rfl⟩)
   go_ret
   rw[HC.out]
   exact⟨congrArg (fun b=>Ending.returned (.string b)) (ByteArray.mk_append_mk [45] t),rfl⟩
def shortL(a:List UInt8):Int×Bool:=if(digL a).1.length≤17 then(val a,true) else(0,false)
theorem Zgk{s:List UInt8}{k:Nat}{b:UInt8}(h:s[k]?=some b):valD (s.take (k+1))=10*valD (s.take k)+(b.toNat-48):=by
 obtain⟨hk,rfl⟩:=List.getElem?_eq_some_iff.1 h
 rw[List.take_succ_eq_append_getElem hk,ZbG]
theorem ZdH{s:List UInt8}(hd:s.all isDig=true)(k:Nat)(hk:k≤17):valD (s.take k)<100000000000000000:=by
 have h:(s.take k).all isDig=true:=by
  rw[List.all_eq_true] at hd ⊢
  exact fun x hx=>hd x (List.mem_of_mem_take hx)
 have h1:=ZaT h
 have h2:10^(s.take k).length≤10^17:=Nat.pow_le_pow_right (by omega) (by rw[List.length_take];omega)
 omega
theorem ZaA(a:List UInt8)(w:World)(ha:a.length≤1000000000):Calls Tryz.prog 93 #[S a] w fun e w'=>e=.returned (.tuple #[.int .i64 (shortL a).1,.bool (shortL a).2])∧w=w':=by
 have H:=hdz (Zax a w ha)
 have hl:=ZaH a
 have HSH:=hdz (show shortL a=if(digL a).1.length≤17 then((if(digL a).2 then-(valD (digL a).1:Int) else valD (digL a).1),true) else(0,false) from rfl)
 have HDG:=hdz (ZaU a).1
 have hl2:(digL a).1.length≤1000000000:=by omega
 clear hl ha
 generalize shortL a=res at*
 generalize (digL a).1=s at*
 generalize (digL a).2=neg at*
 unfold S at*
 by_cases h17:s.length≤17
 ·rw[if_pos h17] at HSH
  clear hl2
  go_enter Tryz.func93,Tryz.ntmps93
  go_wp2_with (go_at_call 115;refine H.out.mono ?_;rintro e w1 ⟨rfl,rfl⟩)
  go_loop [6,7] (fun n i=>∃(k m:Nat),k≤s.length∧i=.int .i64 k∧n=.int .i64 m∧m<100000000000000000∧Hid (m=valD (s.take k))) (fun _ i=>s.length-(intOf i).toNat)
  case atStart=>exact⟨0,0,Nat.zero_le _,rfl,rfl,by omega,by show _=_;rfl⟩
  case round=>
   obtain⟨k,m,hk,rfl,rfl,hm,HM⟩:=hrel
   by_cases hlt:k<s.length
   ·obtain⟨b,hb⟩:∃b,s[k]?=some b:=⟨_,List.getElem?_eq_getElem hlt⟩
    have hks:k<(⟨s.toArray⟩:ByteArray).size:=by rw[Zag];exact hlt
    have hbk:(⟨s.toArray⟩:ByteArray)[k]=b:=Zeu hb hks
    have hdb:=(Zao b).1 (by have:=HDG.out;rw[List.all_eq_true] at this;exact this b (List.mem_of_getElem? hb))
    obtain⟨h1,h2⟩:=hdb
    have HST:=hdz (Zgk hb)
    have hm2:=ZdH HDG.out (k+1) (by omega)
    rw[HST.out,←HM.out] at hm2
    clear hb
    go_wp2
    go_round
    case rel=>exact⟨k+1,10*m+(b.toNat-48),by omega,by go_num,by rw[show((10*m+(b.toNat-48):Nat):Int)=10*(m:Int)+((b.toNat:Int)-48) by omega],hm2,by show _=_;rw[HST.out,←HM.out]⟩
    case measure=>simp[intOf];omega
   ·have HV:=hdz (show m=valD s by have:=HM.out;rwa [List.take_of_length_le (by omega)] at this)
    cases neg with
    |true=>
     go_wp2
     go_ret2
     rw[HSH.out,←HV.out]
     exact⟨by simp,rfl⟩
    |false=>
     go_wp2
     go_ret2
     rw[HSH.out,←HV.out]
     exact⟨by simp,rfl⟩
 ·rw[if_neg h17] at HSH
  go_enter Tryz.func93,Tryz.ntmps93
  go_wp2_with (go_at_call 115;refine H.out.mono ?_;rintro e w1 ⟨rfl,rfl⟩)
  go_ret2
  rw[HSH.out]
  exact⟨rfl,rfl⟩
end
end Go.Proofs.YtpnncoinlopndaaGreatDoor
