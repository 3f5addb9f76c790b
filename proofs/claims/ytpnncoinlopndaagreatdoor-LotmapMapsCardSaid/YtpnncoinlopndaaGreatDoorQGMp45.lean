/- . -/
import Derived.Test.YtpnncoinlopndaaGreatDoorQGMp19
set_option maxRecDepth 100000
set_option maxHeartbeats 16000000
namespace Go.Proofs.YtpnncoinlopndaaGreatDoor
open Go.Lib renaming hid→jq
section
open Go.RowKit Go.Shelf
attribute [local go_sem ↓] Go.wp_at_zero Go.wp_at_succ
noncomputable def rmO(k:Nat):Array Oper:=(((Tryz.f9.body.map ZgH).getD []).lookup k).getD #[]
noncomputable def rmH:Code:=((Tryz.f9.body.bind (ZbW 52)).getD .skip)
theorem Znx:Zk7 (rmO 54) 26 23=true:=by kernel_rfl
theorem ZnG(w w2 W3:World)(ls old:List Lot)(m:Mp)(x:Plan)(N:Nat)(Ao An Am Af Ap:Option Addr)(co cn cm cf cp:Nat)(fp:Fr)(mb pb:Array Value)(A:Option Addr)(n c:Nat)(H:MQ w w2 W3 ls old m x N Ao An Am Af Ap co cn cm cf cp fp mb pb)(xs made lots:List Lot)(HFQ:Hid ((x.part=0/\fp=⟨[],[]⟩)\/(x.part≠0/\(fp.n==[])=false)))(A1 A3:Option Addr)(c1 c3:Nat)(W8 wr Wq:World)(k:Nat)(hlt:k<N)(hN1:N<=1000)(y:Lot)(hy:old[k]?=some y)(g2:List UInt8)(tk2:List Stp)(Ag As2:Option Addr)(cg cs2:Nat)
 (HS2:Hid (QW m x old (k+1)=tk2++Ye {cause:=m.cause,src:=y.id,dst:=[],q:=g2,made:=[],cost:=Qa (x.f.getD k 0)})) (HNQ:Hid (wr.1.size≠w2.1.size+1)) (HGL:Hid ((Vo m x old k).length<=1000)) (HI2:Hid (R5 w w2.1.size W3.1.size W8.1.size N xs.length c1 A1 Ao An Am Af Ap old x made [(w2.1.size+1,#[.slice A3 lots.length c3,.slice Ag (Vo m x old k).length cg,.slice As2 (tk2).length cs2,.slice none 0 0],35),(w2.1.size,pb,73),(w.1.size+1,#[.slice none 0 0,.slice none 0 0,.slice none 0 0,.slice none 0 0],35),(w.1.size,mb,28)] (.slice A3 lots.length c3) lots (.slice Ag (Vo m x old k).length cg) (Vo m x old k) (.slice As2 (tk2).length cs2) (tk2) Wq)) (HY2:Hid (BlkB Wq wr.1.size #[.string ⟨y.id.toArray⟩,.string ⟨y.inst.toArray⟩,.int .i64 y.acq,.int .i64 y.opn,.string ⟨y.q.toArray⟩,.string ⟨y.c.toArray⟩,.string ⟨y.u.toArray⟩] 54)) {jb jc jf ji jj jk jl jm jn jo jp jr js jt ju jy jz jA jB jC jD jE jF jG jH jI jJ jK jL jM jN jO jP jQ jR jS jT jU jV jW jX jY jZ qa qb qc qd qe qf qg qh qi qj qk ql qm qn qo qp qq qr qs qt qu qv qw qx qy qz qA qB qC qD qE qF qG qH qI qJ qK qL qM qN qO qP qQ qR qS qT qU qV qW qX qY qZ va vb vc vd ve vf vg vh vi vj vk vl vm vn vo vp vq vr vs vt vu vv vw vx vy vz vA vB vC vD vE vF vG vH vI vJ vK vL vM vN vO vP vQ vR vS vT vU vV vW vX vY vZ za zb zc zd ze zf zg zh zi zj zk zl zm zn zo zp zq zr zs zt zu zv zw zx zy zz zA zB zC zD zE zF zG zH zI zJ zK zL zM zN zO zP zQ zR zS zT zU zV zW zX zY zZ ua ub uc ud ue uf ug uh ui uj uk ul um un uo up uq ur us ut uu uv uw ux uy uz uA uB uC uD uE uF uG uH uI uJ uK kU uL uM uN uO uP uQ uR uS uT uU uV uW uX uY uZ ka kb kc kd ke kf kg kh ki kj kk kl km kn ko kp kq kr ks kt ku kv kw kx ky kz kA kB kC kD kE kF kG kH kI kJ kK kL kM kN kO kP kQ kR kS kT:Value}:
 rmH.wp Tryz.prog (fun e a' w'=>∃u244 u245 u246 u247 u248 u249 u250 u251 u252 u253 u254 u255 u256 u257 u258 u259 u260 u261 u262 u263 u264 u265 u266 u267 u268 u269 u270 u271 u272 u273 u274 u275 u276 u277 u278 u279 u280 u281 u282 u283 u284 u285 u286 u287 u288 u289 u290 u291 u292 u293 u294 u295 u296 u297 u298 u299 u300 u301 u302 u303 u304:Value,(∃Ag cg As3 cs3,Hid (R5 w w2.1.size W3.1.size W8.1.size N xs.length c1 A1 Ao An Am Af Ap old x made [(w2.1.size+1,#[.slice A3 lots.length c3,.slice Ag (Vo m x old (k+1)).length cg,.slice As3 (QW m x old (k+1)).length cs3,.slice none 0 0],35),(w2.1.size,pb,73),(w.1.size+1,#[.slice none 0 0,.slice none 0 0,.slice none 0 0,.slice none 0 0],35),(w.1.size,mb,28)] (.slice A3 lots.length c3) lots (.slice Ag (Vo m x old (k+1)).length cg) (Vo m x old (k+1)) (.slice As3 (QW m x old (k+1)).length cs3) (QW m x old (k+1)) w'))/\a'=⟨(List.toArray (.slice A n c::jb::jc::.pointer (some ⟨w.1.size,0,none⟩)::.pointer (some ⟨w.1.size+1,0,none⟩)::jf::.pointer (some ⟨w2.1.size,0,none⟩)::.pointer (some ⟨w2.1.size+1,0,none⟩)::ji::jj::jk::jl::jm::jn::jo::jp::jr::js::jt::ju::.int .i64 k::.pointer (some ⟨wr.1.size,0,none⟩)::.string ⟨g2.toArray⟩::jy::jz::jA::jB::jC::jD::jE::jF::jG::jH::jI::jJ::jK::jL::jM::jN::jO::jP::jQ::jR::jS::jT::jU::jV::jW::jX::jY::jZ::qa::qb::qc::qd::qe::qf::qg::qh::qi::qj::qk::ql::qm::qn::qo::qp::qq::qr::qs::qt::qu::qv::qw::qx::qy::qz::qA::qB::qC::qD::qE::qF::qG::qH::qI::qJ::qK::qL::qM::qN::qO::qP::qQ::qR::qS::qT::qU::qV::qW::qX::qY::qZ::va::vb::vc::vd::ve::vf::vg::vh::vi::vj::vk::vl::vm::vn::vo::vp::vq::vr::vs::vt::vu::vv::vw::vx::vy::vz::vA::vB::vC::vD::vE::vF::vG::vH::vI::vJ::vK::vL::vM::vN::vO::vP::vQ::vR::vS::vT::vU::vV::vW::vX::vY::vZ::za::zb::zc::zd::ze::zf::zg::zh::zi::zj::zk::zl::zm::zn::zo::zp::zq::zr::zs::zt::zu::zv::zw::zx::zy::zz::zA::zB::zC::zD::zE::zF::zG::zH::zI::zJ::zK::zL::zM::zN::zO::zP::zQ::zR::zS::zT::zU::zV::zW::zX::zY::zZ::ua::ub::uc::ud::ue::uf::ug::uh::ui::uj::uk::ul::um::un::uo::up::uq::ur::us::ut::uu::uv::uw::ux::uy::uz::uA::uB::uC::uD::uE::uF::uG::uH::uI::uJ::uK::u244::u245::u246::u247::u248::u249::u250::u251::u252::u253::u254::u255::u256::u257::u258::u259::u260::u261::u262::u263::u264::u265::u266::u267::u268::u269::u270::u271::u272::u273::u274::u275::u276::u277::u278::u279::u280::u281::u282::u283::u284::u285::u286::u287::u288::u289::u290::u291::u292::u293::u294::u295::u296::u297::u298::u299::u300::u301::u302::u303::u304::kU::[])),[]⟩/\e=.normal) ⟨(List.toArray (.slice A n c::jb::jc::.pointer (some ⟨w.1.size,0,none⟩)::.pointer (some ⟨w.1.size+1,0,none⟩)::jf::.pointer (some ⟨w2.1.size,0,none⟩)::.pointer (some ⟨w2.1.size+1,0,none⟩)::ji::jj::jk::jl::jm::jn::jo::jp::jr::js::jt::ju::.int .i64 k::.pointer (some ⟨wr.1.size,0,none⟩)::.string ⟨g2.toArray⟩::jy::jz::jA::jB::jC::jD::jE::jF::jG::jH::jI::jJ::jK::jL::jM::jN::jO::jP::jQ::jR::jS::jT::jU::jV::jW::jX::jY::jZ::qa::qb::qc::qd::qe::qf::qg::qh::qi::qj::qk::ql::qm::qn::qo::qp::qq::qr::qs::qt::qu::qv::qw::qx::qy::qz::qA::qB::qC::qD::qE::qF::qG::qH::qI::qJ::qK::qL::qM::qN::qO::qP::qQ::qR::qS::qT::qU::qV::qW::qX::qY::qZ::va::vb::vc::vd::ve::vf::vg::vh::vi::vj::vk::vl::vm::vn::vo::vp::vq::vr::vs::vt::vu::vv::vw::vx::vy::vz::vA::vB::vC::vD::vE::vF::vG::vH::vI::vJ::vK::vL::vM::vN::vO::vP::vQ::vR::vS::vT::vU::vV::vW::vX::vY::vZ::za::zb::zc::zd::ze::zf::zg::zh::zi::zj::zk::zl::zm::zn::zo::zp::zq::zr::zs::zt::zu::zv::zw::zx::zy::zz::zA::zB::zC::zD::zE::zF::zG::zH::zI::zJ::zK::zL::zM::zN::zO::zP::zQ::zR::zS::zT::zU::zV::zW::zX::zY::zZ::ua::ub::uc::ud::ue::uf::ug::uh::ui::uj::uk::ul::um::un::uo::up::uq::ur::us::ut::uu::uv::uw::ux::uy::uz::uA::uB::uC::uD::uE::uF::uG::uH::uI::uJ::uK::uL::uM::uN::uO::uP::uQ::uR::uS::uT::uU::uV::uW::uX::uY::uZ::ka::kb::kc::kd::ke::kf::kg::kh::ki::kj::kk::kl::km::kn::ko::kp::kq::kr::ks::kt::ku::kv::kw::kx::ky::kz::kA::kB::kC::kD::kE::kF::kG::kH::kI::kJ::kK::kL::kM::kN::kO::kP::kQ::kR::kS::kT::kU::[])),[]⟩ Wq:=by
 have EM0:=jq H.e0;have EM1:=jq H.e1;have EM3:=jq H.e3;have EP1:=jq H.p1;have EP2:=jq H.p2;have EP3:=jq H.p3;have EP4:=jq H.p4;have EP6:=jq H.p6;have EP7:=jq H.p7;clear H;obtain⟨bn,on,hAn,HCn⟩:=VV HI2.out.r.m.n hlt
 obtain⟨bm,om,hAm,HCm⟩:=VV HI2.out.r.m.m hlt
 obtain⟨bf,oof,hAf,HCf⟩:=VV HI2.out.r.m.f hlt
 obtain⟨bp,op,hAp,HCp⟩:=VV HI2.out.r.m.p hlt
 have HC:=jq (fun V (hM:Mr w2.1.size N Ao An Am Af Ap old x V) (hk:BlkB V w2.1.size pb 73) (hm:BlkB V w.1.size mb 28)=>(show V.cell? ⟨w.1.size,0,none⟩=some (.string ⟨m.cause.toArray⟩)/\V.cell? ⟨w2.1.size,1,none⟩=some (.slice (some ⟨bn,on,none⟩) N cn)/\V.cell? ⟨w2.1.size,2,none⟩=some (.slice (some ⟨bm,om,none⟩) N cm)/\V.cell? ⟨w2.1.size,3,none⟩=some (.slice (some ⟨bf,oof,none⟩) N cf)/\V.cell? ⟨bn,on+k,none⟩=some (.string ⟨(Qa (x.n.getD k 0)).toArray⟩)/\V.cell? ⟨bm,om+k,none⟩=some (.string ⟨(Qa (x.m.getD k 0)).toArray⟩)/\V.cell? ⟨bf,oof+k,none⟩=some (.string ⟨(Qa (x.f.getD k 0)).toArray⟩) from
  ⟨hm.cell 0 EM0.out,by rw[<-hAn];exact hk.cell 1 EP1.out,by rw[<-hAm];exact hk.cell 2 EP2.out,by rw[<-hAf];exact hk.cell 3 EP3.out,HCn V hM.n,HCm V hM.m,HCf V hM.f⟩))
 have HC2:=jq (fun V (hM:Mr w2.1.size N Ao An Am Af Ap old x V) (hk:BlkB V w2.1.size pb 73) (hm:BlkB V w.1.size mb 28)=>(show V.cell? ⟨w.1.size,1,none⟩=some (.int .i64 m.day)/\V.cell? ⟨w.1.size,3,none⟩=some (.string ⟨m.other.toArray⟩)/\V.cell? ⟨w2.1.size,4,none⟩=some (.slice (some ⟨bp,op,none⟩) N cp)/\V.cell? ⟨w2.1.size,6,none⟩=some (.string ⟨fp.n.toArray⟩)/\V.cell? ⟨w2.1.size,7,none⟩=some (.string ⟨fp.d.toArray⟩)/\V.cell? ⟨bp,op+k,none⟩=some (.string ⟨(Qa (x.p.getD k 0)).toArray⟩) from
  ⟨hm.cell 1 EM1.out,hm.cell 3 EM3.out,by rw[<-hAp];exact hk.cell 4 EP4.out,hk.cell 6 EP6.out,hk.cell 7 EP7.out,HCp V hM.p⟩))
 have HGS:=jq (ZcB m x old k);rw[hy] at HGS;have i1:(0:Int)<=(k:Int):=by omega
 have i2:(k:Int)<(N:Int):=by omega
 have HL2:=jq (show tk2.length<=2002 by
  have h:=ZeG m x old (k+1);rw[HS2.out,List.length_append] at h;omega)
 clear hAn HCn hAm HCm hAf HCf hAp HCp hy;refine Zls fun Q HX=> ?_
 conv=>arg 2;whnf
 obtain⟨sp,hsp⟩:∃s:Stp,s={cause:=m.cause,src:=y.id,dst:=[],q:=g2,made:=[],cost:=Qa (x.f.getD k 0)}:=⟨_,rfl⟩
 rw[<-hsp] at HS2;have HSC:=jq (show Zcj sp=#[.string ⟨m.cause.toArray⟩,.string ⟨y.id.toArray⟩,.string ⟨#[]⟩,.string ⟨g2.toArray⟩,.string ⟨#[]⟩,.string ⟨(Qa (x.f.getD k 0)).toArray⟩] by rw[hsp];rfl);clear hsp;have HPF:=jq (show(x.p.getD k 0=0/\(Qa (x.p.getD k 0)==[])=true/\(Qa (x.p.getD k 0)).isEmpty=true)\/(x.p.getD k 0≠0/\(Qa (x.p.getD k 0)==[])=false/\(Qa (x.p.getD k 0)).isEmpty=false) from Zk1 _);have HFF:=jq (show(x.f.getD k 0=0/\(Qa (x.f.getD k 0)==[])=true/\(Qa (x.f.getD k 0)).isEmpty=true)\/(x.f.getD k 0≠0/\(Qa (x.f.getD k 0)==[])=false/\(Qa (x.f.getD k 0)).isEmpty=false) from Zk1 _);obtain⟨gt,hgt⟩:∃b:Bool,b=decide (x.part≠0/\¬(x.p.getD k 0=0/\x.f.getD k 0=0)):=⟨_,rfl⟩
 have HGT:=jq hgt;clear hgt;obtain⟨gn,hgn⟩:∃g:Gain,g={cause:=m.cause,lot:=y.id,inst:=m.other,acq:=y.acq,closed:=m.day,q:=[],proceeds:=Qa (x.p.getD k 0),cost:=Qa (x.f.getD k 0),deferred:=[],replaced:=[]}:=⟨_,rfl⟩
 have HGN:=jq (show Vo m x old (k+1)=Vo m x old k++(if gt=true then[gn] else[]) by
  unfold Vo;rw[HGT.out,HGS.out,hgn]
  by_cases h1:x.part=0
  ·rw[if_pos h1,if_pos h1,decide_eq_false (fun h=>h.1 h1)];rfl
  ·rw[if_neg h1,if_neg h1]
   by_cases h2:x.p.getD k 0=0/\x.f.getD k 0=0
   ·rw[decide_eq_false (fun h=>h.2 h2)]
    show QT m x old k++(if _ then _ else _)=_
    rw[if_pos h2];rfl
   ·rw[decide_eq_true ⟨h1,h2⟩]
    show QT m x old k++(if _ then _ else _)=_
    rw[if_neg h2];rfl)
 have HGC:=jq (show ZgD gn=#[.string ⟨m.cause.toArray⟩,.string ⟨y.id.toArray⟩,.string ⟨m.other.toArray⟩,.int .i64 y.acq,.int .i64 m.day,.string ⟨#[]⟩,.string ⟨(Qa (x.p.getD k 0)).toArray⟩,.string ⟨(Qa (x.f.getD k 0)).toArray⟩,.string ⟨#[]⟩,.string ⟨#[]⟩] by rw[hgn];rfl);clear hgn HGS;generalize Vo m x old k=gk at*;generalize Qa (x.f.getD k 0)=tfk at*;generalize Qa (x.p.getD k 0)=tpk at*
 have HST:=jq (fun W (h:R5 w w2.1.size W3.1.size W8.1.size N xs.length c1 A1 Ao An Am Af Ap old x made [(w2.1.size+1,#[.slice A3 lots.length c3,.slice Ag gk.length cg,.slice As2 tk2.length cs2,.slice none 0 0],35),(w2.1.size,pb,73),(w.1.size+1,#[.slice none 0 0,.slice none 0 0,.slice none 0 0,.slice none 0 0],35),(w.1.size,mb,28)] (.slice A3 lots.length c3) lots (.slice Ag gk.length cg) gk (.slice As2 tk2.length cs2) tk2 W)=>(show Calls Tryz.prog 40 #[.slice As2 tk2.length cs2,.agg #[.string ⟨m.cause.toArray⟩,.string ⟨y.id.toArray⟩,.string ⟨#[]⟩,.string ⟨g2.toArray⟩,.string ⟨#[]⟩,.string ⟨tfk.toArray⟩]] W (JU sp tk2 W8.1.size As2 cs2 W) by
  rw[<-HSC.out];exact ZdE sp W8.1.size cs2 As2 tk2 W h.t (by have:=HL2.out;omega) h.r.s))
 unfold JU at HST;obtain⟨c_0,c_1,c_2,c_3,c_4,c_5,c_6⟩:=HC.out Wq HI2.out.r.m (HI2.out.r.k.at_ 1 rfl) (HI2.out.r.k.at_ 3 rfl)
 have b0:Wq.cell? ⟨wr.1.size,0,none⟩=some (.string ⟨y.id.toArray⟩):=HY2.out.cell 0 rfl;have s2:=HI2.out.r.k.c 0 2 rfl rfl;go_upto_region 52 with (fail)
 go_cut [] from 244 to 304 (fun wc=>∃As3 cs3,Hid (R5 w w2.1.size W3.1.size W8.1.size N xs.length c1 A1 Ao An Am Af Ap old x made [(w2.1.size+1,#[.slice A3 lots.length c3,.slice Ag gk.length cg,.slice As3 (QW m x old (k+1)).length cs3,.slice none 0 0],35),(w2.1.size,pb,73),(w.1.size+1,#[.slice none 0 0,.slice none 0 0,.slice none 0 0,.slice none 0 0],35),(w.1.size,mb,28)] (.slice A3 lots.length c3) lots (.slice Ag gk.length cg) gk (.slice As3 (QW m x old (k+1)).length cs3) (QW m x old (k+1)) wc)/\Hid (BlkB wc wr.1.size #[.string ⟨y.id.toArray⟩,.string ⟨y.inst.toArray⟩,.int .i64 y.acq,.int .i64 y.opn,.string ⟨y.q.toArray⟩,.string ⟨y.c.toArray⟩,.string ⟨y.u.toArray⟩] 54))
 case first=>
  refine Zeb 13 (by kernel_rfl) (by kernel_rfl) ?_;simp only[List.take_succ_cons,List.take_zero,List.drop_succ_cons,List.drop_zero]
  repeat still_step
  refine wpStill_nil ?_;go_wp2_with (go_at_call 40;refine(HST.out _ HI2.out.drew).mono ?_;rintro e v2 ⟨A4,c4,rfl,ho4,hg4⟩;have HI3:=jq (HI2.out.drew.app6 hg4 ho4);have HY3:=jq (show BlkB v2 wr.1.size #[.string ⟨y.id.toArray⟩,.string ⟨y.inst.toArray⟩,.int .i64 y.acq,.int .i64 y.opn,.string ⟨y.q.toArray⟩,.string ⟨y.c.toArray⟩,.string ⟨y.u.toArray⟩] 54 from(hg4.block _ HY2.out.lt (fun e=>HI2.out.drew.t.neBlk HY2.out (by decide) e.symm)).trans HY2.out);have s4:=HI3.out.r.k.c 0 2 rfl rfl;have f4:=HI3.out.r.k.f 0 2 rfl)
  go_meet
  exact⟨A4,c4,(show R5 _ _ _ _ _ _ _ _ _ _ _ _ _ _ _ _ _ _ _ _ _ _ _ _ by rw[HS2.out];have h:=HI3.out;rw[List.length_append] at h ⊢; exact h.set rfl (Nat.le_succ _) 2 _),(show BlkB _ _ _ _ from HY3.out.far HNQ.out _)⟩
 case rest=>
 obtain⟨As3,cs3,HI3,HY3⟩:=hcut
 obtain⟨Wr,rfl⟩:∃W,W=wc:=⟨_,rfl⟩
 clear c_0 c_1 c_2 c_3 c_4 c_5 c_6 b0 s2 HST HI2 HY2;obtain⟨c_0,c_1,c_2,c_3,c_4,c_5,c_6⟩:=HC.out Wr HI3.out.r.m (HI3.out.r.k.at_ 1 rfl) (HI3.out.r.k.at_ 3 rfl)
 obtain⟨e_0,e_1,e_2,e_3,e_4,e_5⟩:=HC2.out Wr HI3.out.r.m (HI3.out.r.k.at_ 1 rfl) (HI3.out.r.k.at_ 3 rfl)
 go_upto_region 53 with (fail)
 go_cut [278] from 244 to 304 (fun b wc=>b=.bool gt/\wc=Wr)
 case first=>
  rcases HFQ.out with ⟨hp0,rfl⟩|⟨hp1,hn1⟩
  ·obtain rfl:gt=false:=by rw[HGT.out];exact decide_eq_false (fun h=>h.1 hp0)
   clear hp0;go_wp2_with fail
   all_goals
    go_meet
    exact⟨rfl,rfl⟩
  ·have hn3:(fp.n !=[])=true:=by simp[bne,hn1]
   have he3:fp.n.isEmpty=false:=by
    cases h:fp.n with
    |nil=>rw[h] at hn1;cases hn1
    |cons _ _=>rfl
   rcases HPF.out with ⟨u1,u2,u3⟩|⟨u1,u2,u3⟩
   ·rcases HFF.out with ⟨v1,v2,v3⟩|⟨v1,v2,v3⟩
    ·obtain rfl:gt=false:=by rw[HGT.out];exact decide_eq_false (fun h=>h.2 ⟨u1,v1⟩)
     clear u1 v1 hp1;go_wp2_with fail
     all_goals
      go_meet
      exact⟨rfl,rfl⟩
    ·obtain rfl:gt=true:=by rw[HGT.out];exact decide_eq_true ⟨hp1,fun h=>v1 h.2⟩
     clear u1 v1 hp1;go_wp2_with fail
     all_goals
      go_meet
      exact⟨rfl,rfl⟩
   ·obtain rfl:gt=true:=by rw[HGT.out];exact decide_eq_true ⟨hp1,fun h=>u1 h.1⟩
    clear u1 hp1;go_wp2_with fail
    all_goals
     go_meet
     exact⟨rfl,rfl⟩
 case rest=>
 obtain⟨rfl,rfl⟩:=hcut
 obtain⟨Wr,rfl⟩:∃W,W=wc:=⟨_,rfl⟩
 cases gt with
 |false=>
  have HGE:=jq (show Vo m x old (k+1)=gk by rw[HGN.out];simp);clear c_0 c_1 c_2 c_3 c_4 c_5 c_6 e_0 e_1 e_2 e_3 e_4 e_5;go_wp2_with fail
  refine HX.out _ _ ?_
  (repeat apply Exists.intro)
  exact⟨⟨Ag,cg,As3,cs3,(show R5 _ _ _ _ _ _ _ _ _ _ _ _ _ _ _ _ _ _ _ _ _ _ _ _ by rw[HGE.out];exact HI3.out)⟩,rfl,by trivial⟩
 |true=>
  have HGE:=jq (show Vo m x old (k+1)=gk++[gn] by rw[HGN.out];rfl);have s1:=HI3.out.r.k.c 0 1 rfl rfl;have b0:Wr.cell? ⟨wr.1.size,0,none⟩=some (.string ⟨y.id.toArray⟩):=HY3.out.cell 0 rfl;have b2:Wr.cell? ⟨wr.1.size,2,none⟩=some (.int .i64 y.acq):=HY3.out.cell 2 rfl;have hd0:Below Wr.1.size Wr Wr.drew:=(Below.refl _ Wr).drew;have HD0:=jq (HI3.out.below hd0);have HYD:=jq (HY3.out.here hd0);have HI4:=jq (HD0.out.alloc (.cells #[.string ⟨m.cause.toArray⟩,.string ⟨y.id.toArray⟩,.string ⟨m.other.toArray⟩,.int .i64 y.acq,.int .i64 m.day,.string ⟨#[]⟩,.string ⟨tpk.toArray⟩,.string ⟨tfk.toArray⟩,.string ⟨#[]⟩,.string ⟨#[]⟩] 57))
  have HS4:=jq (show Gns (Wr.drew.alloc (.cells #[.string ⟨m.cause.toArray⟩,.string ⟨y.id.toArray⟩,.string ⟨m.other.toArray⟩,.int .i64 y.acq,.int .i64 m.day,.string ⟨#[]⟩,.string ⟨tpk.toArray⟩,.string ⟨tfk.toArray⟩,.string ⟨#[]⟩,.string ⟨#[]⟩] 57)) (Wr.1.size+1) (some ⟨Wr.1.size,0,none⟩) 1 [gn] by
   have h:=Sl.lit (enc:=G10) (k:=10) Wr.drew (ZgD gn) 57 [gn] (ZgE gn) VU;rw[HGC.out] at h;exact h)
  have HY4:=jq (show BlkB (Wr.drew.alloc (.cells #[.string ⟨m.cause.toArray⟩,.string ⟨y.id.toArray⟩,.string ⟨m.other.toArray⟩,.int .i64 y.acq,.int .i64 m.day,.string ⟨#[]⟩,.string ⟨tpk.toArray⟩,.string ⟨tfk.toArray⟩,.string ⟨#[]⟩,.string ⟨#[]⟩] 57)) wr.1.size #[.string ⟨y.id.toArray⟩,.string ⟨y.inst.toArray⟩,.int .i64 y.acq,.int .i64 y.opn,.string ⟨y.q.toArray⟩,.string ⟨y.c.toArray⟩,.string ⟨y.u.toArray⟩] 54 from HYD.out.here ((Below.refl _ _).alloc (Nat.le_refl _) _));obtain⟨SS,hss⟩:∃S:World->Prop,S=fun X=>X.cell? ⟨w2.1.size+1,1,none⟩=some (.slice Ag gk.length cg)/\X.cell? ⟨w.1.size,0,none⟩=some (.string ⟨m.cause.toArray⟩)/\X.cell? ⟨w.1.size,3,none⟩=some (.string ⟨m.other.toArray⟩)/\X.cell? ⟨w.1.size,1,none⟩=some (.int .i64 m.day)/\X.cell? ⟨wr.1.size,0,none⟩=some (.string ⟨y.id.toArray⟩)/\X.cell? ⟨wr.1.size,2,none⟩=some (.int .i64 y.acq)/\X.cell? ⟨w2.1.size,4,none⟩=some (.slice (some ⟨bp,op,none⟩) N cp)/\X.cell? ⟨bp,op+k,none⟩=some (.string ⟨tpk.toArray⟩)/\X.cell? ⟨w2.1.size,3,none⟩=some (.slice (some ⟨bf,oof,none⟩) N cf)/\X.cell? ⟨bf,oof+k,none⟩=some (.string ⟨tfk.toArray⟩):=⟨_,rfl⟩
  have HSX:=jq hss
  have HSK:=jq (show ∀X,Mr w2.1.size N Ao An Am Af Ap old x X->BlkB X w2.1.size pb 73->BlkB X w.1.size mb 28->X.cell? ⟨w2.1.size+1,1,none⟩=some (.slice Ag gk.length cg)->BlkB X wr.1.size #[.string ⟨y.id.toArray⟩,.string ⟨y.inst.toArray⟩,.int .i64 y.acq,.int .i64 y.opn,.string ⟨y.q.toArray⟩,.string ⟨y.c.toArray⟩,.string ⟨y.u.toArray⟩] 54->SS X from fun X h1 h2 h3 h4 h5=>by
   obtain⟨q0,q1,q2,q3,q4,q5,q6⟩:=HC.out X h1 h2 h3
   obtain⟨t0,t1,t2,t3,t4,t5⟩:=HC2.out X h1 h2 h3
   rw[hss];exact⟨h4,q0,t1,t0,h5.cell 0 rfl,h5.cell 2 rfl,t2,t5,q3,q6⟩)
  clear hss c_0 c_1 c_2 c_3 c_4 c_5 c_6 e_0 e_1 e_2 e_3 e_4 e_5;have hS0:=HSK.out Wr.drew HD0.out.r.m (HD0.out.r.k.at_ 1 rfl) (HD0.out.r.k.at_ 3 rfl) (HD0.out.r.k.c 0 1 rfl rfl) HYD.out;go_upto_region 54 with (fail)
  refine ZbR 26 SS 23 (by kernel_rfl) Znx (fun hT=> ?_)
  show Yc _ _ _ _ _ _ 27 _ _ _
  iterate 23
   refine ZbQ (v:= ?_) hT rfl (by decide) (fun _ _ _ h=>h) (by rfl) ?_ hS0 ?_
   rotate_left
   ·intro X hX;rw[HSX.out] at hX;obtain⟨s0,s1,s2,s3,s4,s5,s6,s7,s8,s9⟩:=hX;go_simp;all_goals (with_reducible rfl)
   simp only[Act.put,List.setIfInBounds_toArray,List.set_cons_zero,List.set_cons_succ]
  refine YL (i:=23) (by kernel_rfl) rfl (fun K hK=> ?_)
  go_simp
  clear hS0;have hS0:=HSK.out _ HI4.out.r.m (HI4.out.r.k.at_ 1 rfl) (HI4.out.r.k.at_ 3 rfl) (HI4.out.r.k.c 0 1 rfl rfl) HY4.out;refine hK.out _ _ (fun _=>hS0) ?_;clear hK K
  try simp only[Act.put,List.setIfInBounds_toArray,List.set_cons_zero,List.set_cons_succ]
  refine YL (i:=24) (by kernel_rfl) rfl (fun K hK=> ?_);refine XT _ (by rfl) (.tmp 280) (.tmp 302) _ (by rfl) ZeB VU Zgk (.slice Ag gk.length cg) gk (by rfl) HI4.out.g _ _ 1 1 [gn] (by rfl) HS4.out (by have:=HGL.out;omega) HI4.out.r.s ?_;intro A4 c4 w9 ho9 hg9 _;have HI5:=jq (HI4.out.app10 hg9 ho9);have HY5:=jq (show BlkB w9 wr.1.size #[.string ⟨y.id.toArray⟩,.string ⟨y.inst.toArray⟩,.int .i64 y.acq,.int .i64 y.opn,.string ⟨y.q.toArray⟩,.string ⟨y.c.toArray⟩,.string ⟨y.u.toArray⟩] 54 from(hg9.block _ HY4.out.lt (fun e=>HI4.out.g.neBlk HY4.out (by decide) e.symm)).trans HY4.out);have s4:=HI5.out.r.k.c 0 1 rfl rfl;have f4:=HI5.out.r.k.f 0 1 rfl;clear hS0;have hS0:=HSK.out w9 HI5.out.r.m (HI5.out.r.k.at_ 1 rfl) (HI5.out.r.k.at_ 3 rfl) (HI5.out.r.k.c 0 1 rfl rfl) HY5.out;refine hK.out _ _ (fun _=>hS0) ?_;clear hK K
  try simp only[Act.put,List.setIfInBounds_toArray,List.set_cons_zero,List.set_cons_succ]
  refine VW (i:=25) (v:= ?u25) rfl (by kernel_rfl) (fun _ _ _ h=>h) (by rfl) ?g25 hS0 ?q25
  case g25=>intro X hX;rw[HSX.out] at hX;obtain⟨s0,s1,s2,s3,s4,s5,s6,s7,s8,s9⟩:=hX;go_simp;all_goals (with_reducible rfl)
  simp only[Act.put,List.setIfInBounds_toArray,List.set_cons_zero,List.set_cons_succ];refine YL (i:=26) (by kernel_rfl) rfl (fun K hK=> ?_)
  go_simp
  refine hK.out _ _ (fun h=>absurd rfl h) ?_;clear hK K
  try simp only[Act.put,List.setIfInBounds_toArray,List.set_cons_zero,List.set_cons_succ]
  refine ZcD (by kernel_rfl) ?_ _;go_wp2_with fail
  refine HX.out _ _ ?_
  (repeat apply Exists.intro)
  exact⟨⟨A4,c4,As3,cs3,(show R5 _ _ _ _ _ _ _ _ _ _ _ _ _ _ _ _ _ _ _ _ _ _ _ _ by rw[HGE.out,List.length_append];exact HI5.out.set rfl (Nat.le_succ _) 1 _)⟩,rfl,by trivial⟩
end
end Go.Proofs.YtpnncoinlopndaaGreatDoor
