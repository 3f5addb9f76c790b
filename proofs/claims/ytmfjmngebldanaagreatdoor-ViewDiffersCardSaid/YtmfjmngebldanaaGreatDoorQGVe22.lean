/- X1, X2. -/
import Derived.Test.YtmfjmngebldanaaGreatDoorQGVe25
import Derived.Test.YtmfjmngebldanaaGreatDoorQGVe21
set_option maxRecDepth 20000
set_option maxHeartbeats 2000000
namespace Go.Proofs.YtmfjmngebldanaaGreatDoor
open Go.Lib renaming hid→jq
open Go.RowKit Go.Shelf
section
def Zee(b:UInt8):Bool:=decide (65<=b.toNat)&&decide (b.toNat<=90)
theorem ZdE(s:List UInt8):Yq s=(s.length==3&&s.all Zee):=rfl
theorem Zir{s:List UInt8}{k:Nat}{b:UInt8}(h:s[k]?=some b)(hb:Zee b=false):Yq s=false:=by
 rw[ZdE,Bool.and_eq_false_iff];exact .inr (List.all_eq_false.2 ⟨b,List.mem_of_getElem? h,by simp[hb]⟩)
theorem ZkL{s:List UInt8}{k:Nat}{b:UInt8}(h:s[k]?=some b)(ha:(s.take k).all Zee=true)(hb:Zee b=true):(s.take (k+1)).all Zee=true:=by
 obtain⟨hk,rfl⟩:=List.getElem?_eq_some_iff.1 h
 rw[List.take_succ_eq_append_getElem hk,List.all_append,ha,Bool.true_and];simp[hb]
theorem ZkM(b:UInt8):Zee b=true↔65<=b.toNat/\b.toNat<=90:=by unfold Zee;simp
theorem ZdF(s:List UInt8)(w:World)(hl:s.length<=maxLen):Calls Tryz.prog 120 #[S s] w fun e w'=>e=.returned (.bool (Yq s))/\w=w':=by
 have HNB:=jq (ZdE s);have hsz:=Qk s;have hm:s.length<=9223372036854775807:=hl;clear hl;unfold S;go_enter Tryz.func120,Tryz.ntmps120
 go_wp2
 go_loop [3] (fun i=>∃k:Nat,k<=s.length/\i=.int .i64 k/\Hid ((s.take k).all Zee=true)) (fun i=>s.length-(intOf i).toNat)
 case atStart=>exact⟨0,Nat.zero_le _,rfl,by show _=_;simp⟩
 case round=>
  obtain⟨k,hk,rfl,HA⟩:=hrel
  by_cases hlt:k<s.length
  ·obtain⟨b,hb⟩:∃b,s[k]?=some b:=⟨_,List.getElem?_eq_getElem hlt⟩
   have hks:k<(⟨s.toArray⟩:ByteArray).size:=by rw[Qk];exact hlt
   have hbk:(⟨s.toArray⟩:ByteArray)[k]=b:=Jn hb hks;have HB:=jq hb;clear hb;have HIF:=jq (ZkM b);clear HNB
   go_wp2
   all_goals first
    |(go_round
      case rel=>exact⟨k+1,by omega,by go_num,ZkL HB.out HA.out (by rw[HIF.out];omega)⟩
      case measure=>simp[intOf];omega)
    |(go_ret
      exact⟨Qd (Zir HB.out (by rw[Bool.eq_false_iff];intro h;have:=HIF.out.1 h;omega)).symm,rfl⟩)
  ·have HAL:=jq (show s.all Zee=true by have:=HA.out;rwa [List.take_of_length_le (by omega)] at this);rw[HAL.out,Bool.and_true] at HNB
   go_wp2
   go_ret
   exact⟨Qd (by rw[HNB.out];rw[Bool.eq_iff_iff];simp;omega),rfl⟩
theorem Jp(a:List UInt8)(w:World)(ha:a.length<=1000000000):Calls Tryz.prog 151 #[S a] w fun e w'=>e=.returned (.int .i64 (XV a:Nat))/\w=w':=by
 have hsz:=Qk a;have HD:=jq (show XV a=if a.head?=some 45 then a.length-1 else a.length from rfl);unfold S
 cases a with
 |nil=>
  go_enter Tryz.func151,Tryz.ntmps151
  go_wp2
  go_ret
  exact⟨Qa (by rw[HD.out];rfl),rfl⟩
 |cons b l=>
  have hks:0<(⟨(b::l).toArray⟩:ByteArray).size:=by rw[Qk];simp
  have hbk:(⟨(b::l).toArray⟩:ByteArray)[0]=b:=Jn (k:=0) rfl hks;simp only[List.length_cons] at ha hsz
  by_cases h45:b=45
  ·subst h45;go_enter Tryz.func151,Tryz.ntmps151
   go_wp2
   go_ret
   exact⟨Qa (by rw[HD.out];simp),rfl⟩
  ·have hb:¬(b.toNat:Int)=45:=fun h=>h45 (by apply UInt8.toNat_inj.1;simpa using(by exact_mod_cast h:b.toNat=45))
   have hb2:((b.toNat:Int)==45)=false:=beq_false_of_ne hb;go_enter Tryz.func151,Tryz.ntmps151
   go_wp2
   go_ret
   exact⟨Qa (by rw[HD.out];simp[h45]),rfl⟩
theorem ZkN(d:Int)(w:World):Calls Tryz.prog 79 #[.int .i64 d] w fun e w'=>e=.returned (.int .i64 (if d< -25567\/84005<d then 13 else 0))/\w=w':=by
 by_cases h:d< -25567
 ·rw[if_pos (.inl h)];go_enter Tryz.func79,Tryz.ntmps79
  go_wp2
  go_ret
  exact⟨rfl,rfl⟩
 ·by_cases h3:84005<d
  ·rw[if_pos (.inr h3)];go_enter Tryz.func79,Tryz.ntmps79
   go_wp2
   go_ret
   exact⟨rfl,rfl⟩
  ·rw[if_neg (by omega)];go_enter Tryz.func79,Tryz.ntmps79
   go_wp2
   go_ret
   exact⟨rfl,rfl⟩
theorem VN(pos:Bool)(a:List UInt8)(w:World)(ha:a.length<=100000):Calls Tryz.prog 121 #[S a,S (if pos=true then[49] else[])] w fun e w'=>e=.returned (.int .i64 (Qv pos false ⟨a,[]⟩))/\w=w':=by
 have HN:=jq (Zf0 pos a);have HC:=jq (fun W=>Zgl a W (by omega));have HD:=jq (fun W=>Jp a W (by omega));have HM:=jq (fun W=>XJ a (if pos=true then[49] else[]) W (by omega) (by cases pos<;>simp))
 have hv:val (if pos=true then[49] else[])=if pos=true then 1 else 0:=by cases pos<;>decide+kernel
 rw[hv] at HM;have HS:=jq (Zmc (val a-if pos=true then 1 else 0));have HSG:=jq (show(val a<if pos=true then 1 else 0)↔val a-(if pos=true then 1 else 0)<0 by constructor<;>intro h<;>omega);clear hv;generalize Qv pos false ⟨a,[]⟩=res at*;generalize (if pos=true then([49]:List UInt8) else[])=lst at*;generalize (if pos=true then(1:Int) else 0)=lv at*;unfold S at*
 cases hc:JT a with
 |false=>
  rw[hc,if_pos rfl] at HN;rw[hc,if_neg (by decide)] at HC;clear hc;go_enter Tryz.func121,Tryz.ntmps121
  go_wp2_with fail
  refine(HC.out _).mono ?_;rintro e w1 ⟨rfl,rfl⟩;go_wp2_with fail
  first|go_ret|skip
  exact⟨Qa HN.out.symm,rfl⟩
 |true=>
  rw[hc,if_neg (by decide)] at HN;rw[hc,if_pos rfl] at HC;clear hc
  by_cases h40:40<XV a
  ·rw[if_pos h40] at HN;have h40':(40:Int)<(XV a:Nat):=by omega
   go_enter Tryz.func121,Tryz.ntmps121
   go_wp2_with fail
   refine(HC.out _).mono ?_;rintro e w1 ⟨rfl,rfl⟩;go_wp2_with fail
   refine(HD.out _).mono ?_;rintro e w1 ⟨rfl,rfl⟩;go_wp2_with fail
   first|go_ret|skip
   exact⟨Qa HN.out.symm,rfl⟩
  ·rw[if_neg h40] at HN;have h40':¬(40:Int)<(XV a:Nat):=by omega
   generalize XV a=dg at*;generalize hz:QM (val a-lv)=z at*;have HZ:=jq hz;clear hz
   by_cases h0:z<0
   ·rw[if_pos (HSG.out.2 (by have:=HS.out;simpa[h0] using this))] at HN;go_enter Tryz.func121,Tryz.ntmps121
    go_wp2_with fail
    refine(HC.out _).mono ?_;rintro e w1 ⟨rfl,rfl⟩;go_wp2_with fail
    refine(HD.out _).mono ?_;rintro e w1 ⟨rfl,rfl⟩;go_wp2_with fail
    refine(HM.out _).mono ?_;rintro e w1 ⟨rfl,rfl⟩;go_wp2_with fail
    first|go_ret|skip
    exact⟨Qa HN.out.symm,rfl⟩
   ·rw[if_neg (fun h=>h0 (by have:=HS.out;have h2:=HSG.out.1 h;simpa[h2] using this))] at HN;go_enter Tryz.func121,Tryz.ntmps121
    go_wp2_with fail
    refine(HC.out _).mono ?_;rintro e w1 ⟨rfl,rfl⟩;go_wp2_with fail
    refine(HD.out _).mono ?_;rintro e w1 ⟨rfl,rfl⟩;go_wp2_with fail
    refine(HM.out _).mono ?_;rintro e w1 ⟨rfl,rfl⟩;go_wp2_with fail
    first|go_ret|skip
    exact⟨Qa HN.out.symm,rfl⟩
theorem ZdG(s:List UInt8)(w:World)(hl:s.length<=maxLen):Calls Tryz.prog 118 #[S s] w fun e w'=>e=.returned (.int .i64 (if Qr s=false then 23 else 0))/\w=w':=by
 have H:=jq (fun W=>Vw s W hl);generalize Qr s=b at*;clear hl;unfold S at*
 cases b
 all_goals
  go_enter Tryz.func118,Tryz.ntmps118
  go_wp2_with fail
  refine(H.out _).mono ?_;rintro e w1 ⟨rfl,rfl⟩;go_wp2_with fail
  first|go_ret|skip
  exact⟨rfl,rfl⟩
end
section
theorem Zis{s:List UInt8}(h:s.all Qq=true):Zap s=(decide (1<=s.length)&&decide (s.length<=4)&&decide (s.head?≠some 48)):=by
 unfold Zap;rw[h,Bool.and_true]
theorem ZkO{s:List UInt8}{k:Nat}{b:UInt8}(h:s[k]?=some b)(hb:¬Qq b=true):Zap s=false:=by
 unfold Zap;rw[Bool.and_eq_false_iff];exact .inr (List.all_eq_false.2 ⟨b,List.mem_of_getElem? h,hb⟩)
theorem Zgm(s:List UInt8)(w:World)(hl:s.length<=1000000000):Calls Tryz.prog 159 #[S s] w fun e w'=>e=.returned (.bool (idB s))/\w=w':=by
 have HIB:=jq (Zi3 s);have hsz:=Qk s;have HNM:=jq (fun t W (h:t.length<=maxLen)=>Vw t W h);have hidf:47 ∉ s->idB s=false:=fun h=>by unfold idB;rw[decide_eq_false h];rfl
 have HIF:=jq hidf;clear hidf;generalize idB s=res at*;unfold S at*
 go_enter Tryz.func159,Tryz.ntmps159
 go_wp2_with fail
 go_loop [3,4] (fun a i=>∃k:Nat,k<=s.length/\i=.int .i64 k/\a=.int .i64 (-1)/\Hid (47 ∉ s.take k)) (fun a i=>s.length-(intOf i).toNat)
 case atStart=>exact⟨0,Nat.zero_le _,rfl,rfl,by show _ ∉ _;simp⟩
 case round=>
  obtain⟨k,hk,rfl,rfl,HA⟩:=hrel
  by_cases hlt:k<s.length
  ·obtain⟨d,hd⟩:∃b,s[k]?=some b:=⟨_,List.getElem?_eq_getElem hlt⟩
   have hks:k<(⟨s.toArray⟩:ByteArray).size:=by rw[Qk];exact hlt
   have hbk:(⟨s.toArray⟩:ByteArray)[k]=d:=Jn hd hks
   by_cases h47:d=47
   ·subst h47;obtain⟨c1,c2,c3⟩:=Znj hd HA.out
    have HB:=jq HIB.out;rw[c1,c2] at HB;have HN1:=jq (HNM.out (s.take k) w (by rw[List.length_take];unfold maxLen;omega));have he1:(⟨s.toArray⟩:ByteArray).extract 0 k=⟨(s.take k).toArray⟩:=by rw[Zgi];rfl
    have he2:(⟨s.toArray⟩:ByteArray).extract (k+1) s.length=⟨(s.drop (k+1)).toArray⟩:=by rw[Zgi,List.take_length]
    have hx:(((47:UInt8).toNat:Int)==47)=true:=rfl;have hdl:(s.drop (k+1)).length<=1000000000:=by rw[List.length_drop];omega
    clear HIB c1 c2 c3 hd HNM HIF HA;generalize s.take k=a at*;generalize s.drop (k+1)=r at*
    cases hn:Qr a with
    |true=>
     rw[hn] at HB HN1;have HB2:=jq (show res=Zap r by rw[HB.out,Bool.and_true]);clear HB hn;go_wp2_with fail
     refine HN1.out.mono ?_;rintro e w1 ⟨rfl,rfl⟩;have hrz:=Qk r;have HNL:=jq (fun(h:r.all Qq=true)=>Zis h);have HNB:=jq (fun(k:Nat) (b:UInt8) (h:r[k]?=some b) (hb:¬Qq b=true)=>ZkO h hb);generalize Zap r=nb at*;clear hks hbk hx he1 HN1;go_wp2_with fail
     go_loop [6] (fun i=>∃j:Nat,j<=r.length/\i=.int .i64 j/\Hid ((r.take j).all Qq=true)) (fun i=>r.length-(intOf i).toNat)
     case atStart=>exact⟨0,Nat.zero_le _,rfl,by show _=_;simp⟩
     case round=>
      obtain⟨j,hj,rfl,HD⟩:=hrel
      by_cases hjl:j<r.length
      ·obtain⟨d,hd⟩:∃b,r[j]?=some b:=⟨_,List.getElem?_eq_getElem hjl⟩
       have hks2:j<(⟨r.toArray⟩:ByteArray).size:=by rw[hrz];exact hjl
       have hbk2:(⟨r.toArray⟩:ByteArray)[j]=d:=Jn hd hks2;have HDD:=jq hd;clear hd;have HIF:=jq (QG d)
       go_wp2
       all_goals first
        |(go_round
          case rel=>exact⟨j+1,by omega,by go_num,Zfi HDD.out HD.out (by rw[HIF.out];omega)⟩
          case measure=>simp[intOf];omega)
        |(go_ret
          exact⟨Qd (HB2.out.trans (HNB.out j d HDD.out (by rw[HIF.out];omega))).symm,rfl⟩)
      ·have HAL:=jq (show r.all Qq=true by have:=HD.out;rwa [List.take_of_length_le (by omega)] at this);have HLS:=jq (HNL.out HAL.out);clear HNL HNB HAL
       by_cases h1:1<=r.length
       ·by_cases h4:r.length<=4
        ·obtain⟨b,hb⟩:∃b,r[0]?=some b:=⟨_,List.getElem?_eq_getElem (by omega)⟩
         have hks2:0<(⟨r.toArray⟩:ByteArray).size:=by rw[hrz];omega
         have hbk2:(⟨r.toArray⟩:ByteArray)[0]=b:=Jn hb hks2;have HH:=jq (show r.head?=some b by rw[<-hb];cases r<;>rfl);clear hb;rw[decide_eq_true h1,decide_eq_true h4,HH.out] at HLS
         by_cases h0:b=48
         ·have hx:((b.toNat:Int) !=48)=false:=by rw[h0];rfl
          have HZ:=jq (show res=false by rw[HB2.out,HLS.out,h0];rfl);clear h0
          go_wp2
          go_ret
          exact⟨Qd HZ.out.symm,rfl⟩
         ·have hx:((b.toNat:Int) !=48)=true:=by
           rw[bne_iff_ne];exact fun e=>h0 (UInt8.toNat_inj.1 (by show b.toNat=48;omega))
          have HZ:=jq (show res=true by rw[HB2.out,HLS.out];simp[h0]);clear h0
          go_wp2
          go_ret
          exact⟨Qd HZ.out.symm,rfl⟩
        ·have HZ:=jq (show res=false by rw[HB2.out,HLS.out,decide_eq_false h4];simp)
         go_wp2
         go_ret
         exact⟨Qd HZ.out.symm,rfl⟩
       ·have HZ:=jq (show res=false by rw[HB2.out,HLS.out,decide_eq_false h1];simp)
        go_wp2
        go_ret
        exact⟨Qd HZ.out.symm,rfl⟩
    |false=>
     rw[hn] at HB HN1;have HB2:=jq (show res=false by rw[HB.out,Bool.and_false]);clear HB hn;go_wp2_with fail
     refine HN1.out.mono ?_;rintro e w1 ⟨rfl,rfl⟩;go_wp2_with fail
     first|go_ret|skip
     exact⟨Qd HB2.out.symm,rfl⟩
   ·have hx:((d.toNat:Int)==47)=false:=by
     rw[Bool.eq_false_iff];intro e;have:=eq_of_beq e
     exact h47 (UInt8.toNat_inj.1 (by show d.toNat=47;omega))
    have HST:=jq (show 47 ∉ s.take (k+1) by
     obtain⟨h1,h2⟩:=List.getElem?_eq_some_iff.1 hd
     rw[List.take_succ_eq_append_getElem h1,h2,List.mem_append];rintro(h|h)
     ·exact HA.out h
     ·simp at h;exact h47 h.symm)
    clear hd h47;go_wp2_with fail
    go_round
    case rel=>exact⟨k+1,by omega,by go_num,rfl,HST⟩
    case measure=>simp[intOf];omega
  ·have HE:=jq (show res=false from HIF.out (by have:=HA.out;rwa [List.take_of_length_le (by omega)] at this));go_wp2_with fail
   first|go_ret|skip
   exact⟨Qd HE.out.symm,rfl⟩
end
end Go.Proofs.YtmfjmngebldanaaGreatDoor
