/- Rq7. -/
import Derived.Test.YtkddgeclncafoaaGreatDoorQGEn13
import Derived.Test.YtkddgeclncafoaaGreatDoorQGEn18
set_option maxRecDepth 20000
set_option maxHeartbeats 1000000
namespace Go.Proofs.YtkddgeclncafoaaGreatDoor
open Go.Lib renaming hid→jq
section
open Go.RowKit Go.Shelf
theorem ZeQ(s:List UInt8)(w:World)(hl:s.length<=1000000000):Calls Tryz.prog 202 #[S s] w fun e w'=>e=.returned (.bool (VK s))/\w=w':=by
 have HNB:=jq (show VK s=(decide (1<=s.length)&&decide (s.length<=4)&&decide (s.head?≠some 48)&&s.all Qr) from rfl);have hsz:=Qm s
 by_cases h1:1<=s.length
 ·by_cases h4:s.length<=4
  ·rw[decide_eq_true h1,decide_eq_true h4] at HNB;obtain⟨b,hb⟩:∃b,s[0]?=some b:=⟨_,List.getElem?_eq_getElem (by omega)⟩
   have hks:0<(⟨s.toArray⟩:ByteArray).size:=by rw[hsz];omega
   have hbk:(⟨s.toArray⟩:ByteArray)[0]=b:=YX hb hks
   have hh:s.head?=some b:=by rw[<-hb];cases s<;>rfl
   by_cases h0:b=48
   ·have HF:=jq (show VK s=false by rw[HNB.out,hh,h0];simp);have hx:((b.toNat:Int)==48)=true:=by rw[h0];rfl
    clear HNB hh h0 hb;unfold S;go_enter Tryz.func202,Tryz.ntmps202
    go_wp2_with fail
    first|go_ret|skip
    rw[HF.out];exact⟨rfl,rfl⟩
   ·have HF:=jq (show VK s=s.all Qr by rw[HNB.out,hh];simp[h0])
    have hx:((b.toNat:Int)==48)=false:=by
     rw[Bool.eq_false_iff];intro e;have:=eq_of_beq e
     exact h0 (UInt8.toNat_inj.1 (by show b.toNat=48;omega))
    clear HNB hh h0 hb;unfold S;go_enter Tryz.func202,Tryz.ntmps202
    go_wp2_with fail
    go_loop [3] (fun i=>∃k:Nat,k<=s.length/\i=.int .i64 k/\Hid ((s.take k).all Qr=true)) (fun i=>s.length-(intOf i).toNat)
    case atStart=>exact⟨0,Nat.zero_le _,rfl,by show _=_;simp⟩
    case round=>
     clear hx hbk hks;obtain⟨k,hk,rfl,HA⟩:=hrel
     by_cases hlt:k<s.length
     ·obtain⟨d,hd⟩:∃b,s[k]?=some b:=⟨_,List.getElem?_eq_getElem hlt⟩
      have hks:k<(⟨s.toArray⟩:ByteArray).size:=by rw[Qm];exact hlt
      have hbk:(⟨s.toArray⟩:ByteArray)[k]=d:=YX hd hks;have HD:=jq hd;clear hd;have HIF:=jq (QE d)
      go_wp2
      all_goals first
       |(go_round
         case rel=>exact⟨k+1,by omega,by go_num,ZcN HD.out HA.out (by rw[HIF.out];omega)⟩
         case measure=>simp[intOf];omega)
       |(go_ret
         exact⟨Qe (HF.out.trans (Zif HD.out (by rw[HIF.out];omega))).symm,rfl⟩)
     ·have HAL:=jq (show s.all Qr=true by have:=HA.out;rwa [List.take_of_length_le (by omega)] at this)
      go_wp2
      go_ret
      exact⟨Qe (HF.out.trans HAL.out).symm,rfl⟩
  ·have HF:=jq (show VK s=false by rw[HNB.out,decide_eq_false h4];simp);clear HNB;unfold S;go_enter Tryz.func202,Tryz.ntmps202
   go_wp2_with fail
   first|go_ret|skip
   rw[HF.out];exact⟨rfl,rfl⟩
 ·have HF:=jq (show VK s=false by rw[HNB.out,decide_eq_false h1];simp);clear HNB;unfold S;go_enter Tryz.func202,Tryz.ntmps202
  go_wp2_with fail
  first|go_ret|skip
  rw[HF.out];exact⟨rfl,rfl⟩
theorem Zlc{s:List UInt8}{k:Nat}(h:s[k]?=some 47)(hn:47 ∉ s.take k):YL s=s.take k/\Jd s=s.drop (k+1)/\47∈s:=by
 obtain⟨hk,e⟩:=List.getElem?_eq_some_iff.1 h
 have hs:s=s.take k++47::s.drop (k+1):=by
  conv=>lhs;rw[<-List.take_append_drop k s,List.drop_eq_getElem_cons hk,e]
 have hall:∀x∈s.take k,(x !=47)=true:=fun x hx=>by
  rw[bne_iff_ne];exact fun e=>hn (e▸hx)
 generalize s.take k=a at*;generalize s.drop (k+1)=r at*;subst hs;refine⟨?_,?_,by simp⟩
 ·unfold YL;rw[List.takeWhile_append_of_pos hall];simp
 ·unfold Jd;rw[List.dropWhile_append_of_pos hall];simp
theorem Zld(s:List UInt8)(w:World)(hl:s.length<=1000000000):Calls Tryz.prog 152 #[S s] w fun e w'=>e=.returned (.bool (idB s))/\w=w':=by
 have HIB:=jq (Zet s);have hsz:=Qm s;have HNM:=jq (fun t W (h:t.length<=maxLen)=>Yw t W h);have HNU:=jq (fun t W (h:t.length<=1000000000)=>ZeQ t W h);have hidf:47 ∉ s->idB s=false:=fun h=>by unfold idB;rw[decide_eq_false h];rfl
 have HIF:=jq hidf;clear hidf;generalize idB s=res at*;unfold S at*
 go_enter Tryz.func152,Tryz.ntmps152
 go_wp2_with fail
 go_loop [3] (fun i=>∃k:Nat,k<=s.length/\i=.int .i64 k/\Hid (47 ∉ s.take k)) (fun i=>s.length-(intOf i).toNat)
 case atStart=>exact⟨0,Nat.zero_le _,rfl,by show _ ∉ _;simp⟩
 case round=>
  obtain⟨k,hk,rfl,HA⟩:=hrel
  by_cases hlt:k<s.length
  ·obtain⟨d,hd⟩:∃b,s[k]?=some b:=⟨_,List.getElem?_eq_getElem hlt⟩
   have hks:k<(⟨s.toArray⟩:ByteArray).size:=by rw[Qm];exact hlt
   have hbk:(⟨s.toArray⟩:ByteArray)[k]=d:=YX hd hks
   by_cases h47:d=47
   ·subst h47;obtain⟨c1,c2,c3⟩:=Zlc hd HA.out
    have HB:=jq HIB.out;rw[c1,c2] at HB;have HN1:=jq (HNM.out (s.take k) w (by rw[List.length_take];unfold maxLen;omega));have HN2:=jq (HNU.out (s.drop (k+1)) w (by rw[List.length_drop];omega));have he1:(⟨s.toArray⟩:ByteArray).extract 0 k=⟨(s.take k).toArray⟩:=by rw[ZcM];rfl
    have he2:(⟨s.toArray⟩:ByteArray).extract (k+1) s.length=⟨(s.drop (k+1)).toArray⟩:=by rw[ZcM,List.take_length]
    have hx:(((47:UInt8).toNat:Int)==47)=true:=rfl;clear HIB c1 c2 c3 hd HNM HNU HIF;generalize s.take k=a at*;generalize s.drop (k+1)=r at*
    cases hn:Qp a with
    |true=>
     rw[hn] at HB HN1;have HB2:=jq (show res=VK r by rw[HB.out,Bool.and_true]);clear HB hn;go_wp2_with fail
     refine HN1.out.mono ?_;rintro e w1 ⟨rfl,rfl⟩;go_wp2_with fail
     refine HN2.out.mono ?_;rintro e w1 ⟨rfl,rfl⟩;go_wp2_with fail
     first|go_ret|skip
     exact⟨Qe HB2.out.symm,rfl⟩
    |false=>
     rw[hn] at HB HN1;have HB2:=jq (show res=false by rw[HB.out,Bool.and_false]);clear HB hn;go_wp2_with fail
     refine HN1.out.mono ?_;rintro e w1 ⟨rfl,rfl⟩;go_wp2_with fail
     first|go_ret|skip
     exact⟨Qe HB2.out.symm,rfl⟩
   ·have hx:((d.toNat:Int)==47)=false:=by
     rw[Bool.eq_false_iff];intro e;have:=eq_of_beq e
     exact h47 (UInt8.toNat_inj.1 (by show d.toNat=47;omega))
    have HST:=jq (show 47 ∉ s.take (k+1) by
     obtain⟨h1,h2⟩:=List.getElem?_eq_some_iff.1 hd
     rw[List.take_succ_eq_append_getElem h1,h2,List.mem_append];rintro(h|h)
     ·exact HA.out h
     ·simp at h;exact h47 h.symm)
    clear hd h47;go_wp2_with fail
    go_round
    case rel=>exact⟨k+1,by omega,by go_num,HST⟩
    case measure=>simp[intOf];omega
  ·have HE:=jq (show res=false from HIF.out (by have:=HA.out;rwa [List.take_of_length_le (by omega)] at this));go_wp2_with fail
   first|go_ret|skip
   exact⟨Qe HE.out.symm,rfl⟩
theorem Zd5(d:Int)(w:World)(_h1: -9223372036854775808<=d)(_h2:d<=9223372036854775807):Calls Tryz.prog 154 #[.int .i64 d] w fun e w'=>e=.returned (.bool (VL d))/\w=w':=by
 have HDB:=jq (show VL d=(decide (-25567<=d)&&decide (d<=84005)) from rfl);generalize VL d=res at*
 by_cases h3: -25567<=d
 ·rw[decide_eq_true h3,Bool.true_and] at HDB;go_enter Tryz.func154,Tryz.ntmps154
  go_wp2_with fail
  first|go_ret|skip
  exact⟨Qe HDB.out.symm,rfl⟩
 ·rw[decide_eq_false h3,Bool.false_and] at HDB;go_enter Tryz.func154,Tryz.ntmps154
  go_wp2_with fail
  first|go_ret|skip
  exact⟨Qe HDB.out.symm,rfl⟩
end
end Go.Proofs.YtkddgeclncafoaaGreatDoor
