/- Texts of this claim, merged: PBx57, RwTs, PBx29, PBx31, FU, FU2, FI, PBx41, FR, FB, RwPp, PBx40, FE, PBx33, PBx4, PBx21, FV, RwSg, RwIn, RwIpOk, RwCgU, RwCgT, RwCgI, RwRin. -/
import Derived.Test.YtkmimamminddiaaZpb
import Derived.Test.YtkmimamminddiaaZpf
import Derived.Test.YtkmimamminddiaaZpe
import Derived.Test.YtkmimamminddiaaZpd
import Derived.Test.YtkmimamminddiaaZpc
import Derived.Deep.Cut
import Derived.Deep.CutRange
import Derived.Deep.CutBlock
import Derived.Deep.WholeRow
set_option maxHeartbeats 40000000
set_option maxRecDepth 100000
set_option linter.unusedVariables false
set_option linter.unusedSimpArgs false
namespace Go.Proofs.Ytkmimamminddiaa.PB
open Go.RowKit Go.Proofs.ai.bX Go.Proofs.ai.dh Go.Proofs.ai.iL
attribute [local go_sem] dF dG eG eH cQ cR dH dI
attribute [local go_sem high] Ahd
def j9.f (k:Nat) (a0:Int) (a1:Int) (cT:Int) (cU:Int) (cY:Int) (ik:Int) (iq:Int) (iu:Int) (jo:Int) (iv:Int) (gz:List Int) (gA:List Int):Option (Bool):=(aD.f k cT cU cY ik iq iu jo iv gz gA).bind fun DJ=>(if DJ.2=0 then ((ez.f k a0 a1 6 (DJ.1.length:Int)).bind fun OI=>((bZ.f k OI DJ.1).bind fun OJ=>((bO.f k OJ).bind fun SG=>(some (SG==65535))))) else (some false))
theorem j9.calls (k:Nat) (a0:Int) (a1:Int) (cT:Int) (cU:Int) (cY:Int) (ik:Int) (iq:Int) (iu:Int) (jo:Int) (iv:Int) (kA:Option Addr) (kB:Nat) (gz:List Int) (kC:Option Addr) (kD:Nat) (gA:List Int) (r:Bool) (w:World) (tB:Kd.C (Kd.int .u8) w kA gz.length gz) (tC:gz.length<=kB) (tD:Kd.C (Kd.int .u8) w kC gA.length gA) (tE:gA.length<=kD) (h:j9.f k a0 a1 cT cU cY ik iq iu jo iv gz gA=some r):
  Calls Try.prog 99 #[.int .u32 a0,.int .u32 a1,.agg #[.int .u16 cT,.int .u16 cU,.int .u32 cY,.int .u32 ik,.int .u8 iq,.int .u16 iu,.int .u16 jo,.int .u16 iv,.slice kA gz.length kB,.slice kC gA.length kD]] w fun e w'=>e= .returned (.bool r) /\ Below w.heap.size w w':=by
 have qU:=Try.underlying137;have uB:=aa.mk tB;have uC:=aa.mk tC;clear tB tC;have uD:=aa.mk tD;have uE:=aa.mk tE;clear tD tE;have HB:=gj w;have H:((aD.f k cT cU cY ik iq iu jo iv gz gA).bind fun DJ=>(if DJ.2=0 then ((ez.f k a0 a1 6 (DJ.1.length:Int)).bind fun OI=>((bZ.f k OI DJ.1).bind fun OJ=>((bO.f k OJ).bind fun SG=>(some (SG==65535))))) else (some false)))=some r:=h;clear h;replace H:=cZ H;obtain ⟨⟨VQ,LM⟩,qA,H⟩:=H
 (try dsimp -simprocs only at H)
 have A4:=aa.mk qA;clear qA
 by_cases c5:LM=0
 ·rw [au c5] at H
  have mS:(LM==0)=true:=fH c5;have qz:(LM !=0)=false:=kO c5;clear c5;replace H:=cZ H;obtain ⟨OI,wq,H⟩:=H
  (try dsimp -simprocs only at H)
  have A6:=aa.mk wq;clear wq;replace H:=cZ H;obtain ⟨OJ,Bc,H⟩:=H
  (try dsimp -simprocs only at H)
  have A7:=aa.mk Bc;clear Bc;replace H:=cZ H;obtain ⟨SG,Jv,H⟩:=H
  (try dsimp -simprocs only at H)
  have A8:=aa.mk Jv;clear Jv;obtain rfl:=cS H
  go_enter Try.func99,Try.ntmps99
  go_wp2_with (first|((with_reducible refine aA (N:=5) rfl ?_);(try (refine eN (by rfl) ?_;dsimp only));refine aC ?hg (N:=5) ?hd (cs:= #[.int .u16 cT,.int .u16 cU,.int .u32 cY,.int .u32 ik,.int .u8 iq,.int .u16 iu,.int .u16 jo,.int .u16 iv,.slice kA gz.length kB,.slice kC gA.length kD]) (t:=137) ?hr ?_;(case hd=>rfl);(case hg=>rfl);(case hr=>first|(go_simp;done)|(go_simp;rfl));intro nc hg w9 bK hb;have aJ:=aa.mk (aq (bz HB) hb);have aQ:=aa.mk (bK);have bt:=aa.mk ((by rw [hg];exact (af (bz HB)):w.heap.size<=nc));have cr:=aa.mk ((by rw [hg];exact (af (bz HB)):w.heap.size<=nc));clear HB;have HB:=aJ;have hO:=aQ;have Ahe:=bt;have Ahf:=cr;clear aJ aQ bt cr;clear hb bK hg;have rT:w9.cell? ⟨nc,0,none⟩=some (.int .u16 cT):=cz hO.out 0 rfl;have rU:w9.cell? ⟨nc,1,none⟩=some (.int .u16 cU):=cz hO.out 1 rfl;have rV:w9.cell? ⟨nc,2,none⟩=some (.int .u32 cY):=cz hO.out 2 rfl;have rW:w9.cell? ⟨nc,3,none⟩=some (.int .u32 ik):=cz hO.out 3 rfl;have xF:w9.cell? ⟨nc,4,none⟩=some (.int .u8 iq):=cz hO.out 4 rfl;have zz:w9.cell? ⟨nc,5,none⟩=some (.int .u16 iu):=cz hO.out 5 rfl;have zA:w9.cell? ⟨nc,6,none⟩=some (.int .u16 jo):=cz hO.out 6 rfl;have zB:w9.cell? ⟨nc,7,none⟩=some (.int .u16 iv):=cz hO.out 7 rfl;have zC:w9.cell? ⟨nc,8,none⟩=some (.slice kA gz.length kB):=cz hO.out 8 rfl;have zD:w9.cell? ⟨nc,9,none⟩=some (.slice kC gA.length kD):=cz hO.out 9 rfl;have rX:=ae hO.out 0;have rY:=ae hO.out 1;have rZ:=ae hO.out 2;have sg:=ae hO.out 3;have xG:=ae hO.out 4;have zE:=ae hO.out 5;have zF:=ae hO.out 6;have zG:=ae hO.out 7;have zH:=ae hO.out 8;have zI:=ae hO.out 9)|((with_reducible refine ay (f:=75) rfl ?_);refine gL 11 Try.func75 #[.agg #[.int .u16 cT,.int .u16 cU,.int .u32 cY,.int .u32 ik,.int .u8 iq,.int .u16 iu,.int .u16 jo,.int .u16 iv,.slice kA gz.length kB,.slice kC gA.length kD]] ?_;(with_reducible refine (aD.calls k cT cU cY ik iq iu jo iv _ _ gz _ _ gA VQ LM _ ?aG ?aH ?qW ?qX A4.out).mono ?_);(case aG=>exact Kd.aU uB.out (bz HB));(case aH=>exact uC.out);(case qW=>exact Kd.aU uD.out (bz HB));(case qX=>exact uE.out);rintro e qf ⟨An8,rfl,gE,hb⟩;refine ⟨_,rfl, ?_⟩;have aJ:=aa.mk (Kd.bP gE (af (bz HB)));have aQ:=aa.mk (bn (kz hO) hb);have bt:=aa.mk (aq (bz HB) hb);clear hO;clear HB;have DK:=aJ;have hO:=aQ;have HB:=bt;clear aJ aQ bt;(try clear hb);(try clear hb2);(try clear hk);(try clear hi);(try clear gE);obtain ⟨Agx,Agy,Abr⟩:=Kd.da DK.out;subst Abr)|(go_at_call 82;(with_reducible refine (ez.calls k a0 a1 6 (VQ.length:Int) OI _ A6.out).mono ?_);rintro e w' ⟨rfl,⟨nd,rfl⟩⟩)|(go_at_call 80;(with_reducible refine (bZ.calls k OI _ _ VQ OJ _ ?aG ?aH A7.out).mono ?_);(case aG=>repeat (first|exact (Kd.av DK.out).2.2|(with_reducible refine Kd.fD ?_ _)|(with_reducible refine Kd.fj ?_ _)|(with_reducible refine Kd.gP ?_)));(case aH=>exact (Kd.av DK.out).2.1);rintro e sR ⟨rfl,hb⟩;have aJ:=aa.mk (Kd.fU (Kd.rz DK) hb);have aQ:=aa.mk (bn (kz hO) hb);have bt:=aa.mk (aq (bz HB) hb);clear DK;clear hO;clear HB;have DK:=aJ;have hO:=aQ;have HB:=bt;clear aJ aQ bt;(try clear hb);(try clear hb2);(try clear hk);(try clear hi))|(go_at_call 79;(with_reducible refine (bO.calls k OJ SG _ A8.out).mono ?_);rintro e w' ⟨rfl,⟨nd,rfl⟩⟩))
  go_ret
  exact ⟨by first|rfl|(simp [aj,ak]<;>rfl)|(simp [*,aj,ak]<;>rfl),bz HB⟩
 ·rw [ax c5] at H
  have mS:(LM==0)=false:=fc c5;have qz:(LM !=0)=true:=lA c5;obtain rfl:=cS H
  go_enter Try.func99,Try.ntmps99
  go_wp2_with (first|((with_reducible refine aA (N:=5) rfl ?_);(try (refine eN (by rfl) ?_;dsimp only));refine aC ?hg (N:=5) ?hd (cs:= #[.int .u16 cT,.int .u16 cU,.int .u32 cY,.int .u32 ik,.int .u8 iq,.int .u16 iu,.int .u16 jo,.int .u16 iv,.slice kA gz.length kB,.slice kC gA.length kD]) (t:=137) ?hr ?_;(case hd=>rfl);(case hg=>rfl);(case hr=>first|(go_simp;done)|(go_simp;rfl));intro nc hg qN bK hb;have aJ:=aa.mk (aq (bz HB) hb);have aQ:=aa.mk (bK);have bt:=aa.mk ((by rw [hg];exact (af (bz HB)):w.heap.size<=nc));have cr:=aa.mk ((by rw [hg];exact (af (bz HB)):w.heap.size<=nc));clear HB;have HB:=aJ;have hO:=aQ;have Ahe:=bt;have Ahf:=cr;clear aJ aQ bt cr;clear hb bK hg;have Vf:qN.cell? ⟨nc,0,none⟩=some (.int .u16 cT):=cz hO.out 0 rfl;have Vg:qN.cell? ⟨nc,1,none⟩=some (.int .u16 cU):=cz hO.out 1 rfl;have Vh:qN.cell? ⟨nc,2,none⟩=some (.int .u32 cY):=cz hO.out 2 rfl;have Vi:qN.cell? ⟨nc,3,none⟩=some (.int .u32 ik):=cz hO.out 3 rfl;have Vj:qN.cell? ⟨nc,4,none⟩=some (.int .u8 iq):=cz hO.out 4 rfl;have Vk:qN.cell? ⟨nc,5,none⟩=some (.int .u16 iu):=cz hO.out 5 rfl;have Vl:qN.cell? ⟨nc,6,none⟩=some (.int .u16 jo):=cz hO.out 6 rfl;have Vm:qN.cell? ⟨nc,7,none⟩=some (.int .u16 iv):=cz hO.out 7 rfl;have Vn:qN.cell? ⟨nc,8,none⟩=some (.slice kA gz.length kB):=cz hO.out 8 rfl;have Vo:qN.cell? ⟨nc,9,none⟩=some (.slice kC gA.length kD):=cz hO.out 9 rfl;have Vp:=ae hO.out 0;have Vq:=ae hO.out 1;have Vr:=ae hO.out 2;have Vs:=ae hO.out 3;have Vt:=ae hO.out 4;have Vu:=ae hO.out 5;have Vv:=ae hO.out 6;have Vw:=ae hO.out 7;have Vx:=ae hO.out 8;have Vy:=ae hO.out 9)|((with_reducible refine ay (f:=75) rfl ?_);refine gL 11 Try.func75 #[.agg #[.int .u16 cT,.int .u16 cU,.int .u32 cY,.int .u32 ik,.int .u8 iq,.int .u16 iu,.int .u16 jo,.int .u16 iv,.slice kA gz.length kB,.slice kC gA.length kD]] ?_;(with_reducible refine (aD.calls k cT cU cY ik iq iu jo iv _ _ gz _ _ gA VQ LM _ ?aG ?aH ?qW ?qX A4.out).mono ?_);(case aG=>exact Kd.aU uB.out (bz HB));(case aH=>exact uC.out);(case qW=>exact Kd.aU uD.out (bz HB));(case qX=>exact uE.out);rintro e qM ⟨An8,rfl,gE,hb⟩;refine ⟨_,rfl, ?_⟩;have aJ:=aa.mk (Kd.bP gE (af (bz HB)));have aQ:=aa.mk (bn (kz hO) hb);have bt:=aa.mk (aq (bz HB) hb);clear hO;clear HB;have DK:=aJ;have hO:=aQ;have HB:=bt;clear aJ aQ bt;(try clear hb);(try clear hb2);(try clear hk);(try clear hi);(try clear gE)))
  go_ret
  exact ⟨by first|rfl|(simp [aj,ak]<;>rfl)|(simp [*,aj,ak]<;>rfl),bz HB⟩
def jF.f (k:Nat) (aV:Int) (bh:Int) (bp:Int) (bw:Int) (cA:List Int):Option (Bool):=(bG.f aV bh bp bw cA).bind fun JU=>(if JU.2=0 then ((bZ.f k 0 JU.1).bind fun OK=>((bO.f k OK).bind fun SH=>(some (SH==65535)))) else (some false))
theorem jF.calls (k:Nat) (aV:Int) (bh:Int) (bp:Int) (bw:Int) (fE:Option Addr) (fF:Nat) (cA:List Int) (r:Bool) (w:World) (jU:Kd.C (Kd.int .u8) w fE cA.length cA) (jV:cA.length<=fF) (h:jF.f k aV bh bp bw cA=some r):
  Calls Try.prog 100 #[.agg #[.int .u8 aV,.int .u8 bh,.int .u16 bp,.int .u32 bw,.slice fE cA.length fF]] w fun e w'=>e= .returned (.bool r) /\ Below w.heap.size w w':=by
 have ny:=Try.underlying101;have oh:=aa.mk jU;have o7:=aa.mk jV;clear jU jV;have HB:=gj w;have H:((bG.f aV bh bp bw cA).bind fun JU=>(if JU.2=0 then ((bZ.f k 0 JU.1).bind fun OK=>((bO.f k OK).bind fun SH=>(some (SH==65535)))) else (some false)))=some r:=h;clear h;replace H:=cZ H;obtain ⟨⟨AbY,LN⟩,uJ,H⟩:=H
 (try dsimp -simprocs only at H)
 have A2:=aa.mk uJ;clear uJ
 by_cases c3:LN=0
 ·rw [au c3] at H
  have oY:(LN==0)=true:=fH c3;have qP:(LN !=0)=false:=kO c3;clear c3;replace H:=cZ H;obtain ⟨OK,qA,H⟩:=H
  (try dsimp -simprocs only at H)
  have A4:=aa.mk qA;clear qA;replace H:=cZ H;obtain ⟨SH,CM,H⟩:=H
  (try dsimp -simprocs only at H)
  have A5:=aa.mk CM;clear CM;obtain rfl:=cS H
  go_enter Try.func100,Try.ntmps100
  go_wp2_with (first|((with_reducible refine aA (N:=1) rfl ?_);refine aC ?hg (N:=1) ?hd (cs:= #[.int .u8 aV,.int .u8 bh,.int .u16 bp,.int .u32 bw,.slice fE cA.length fF]) (t:=101) ?hr ?_;(case hd=>rfl);(case hg=>rfl);(case hr=>first|(go_simp;done)|(go_simp;rfl));intro sO hg w6 bK hb;have aJ:=aa.mk (aq (bz HB) hb);have aQ:=aa.mk (bK);have bt:=aa.mk ((by rw [hg];exact (af (bz HB)):w.heap.size<=sO));have cr:=aa.mk ((by rw [hg];exact (af (bz HB)):w.heap.size<=sO));clear HB;have HB:=aJ;have lu:=aQ;have Ahg:=bt;have Ahh:=cr;clear aJ aQ bt cr;clear hb bK hg;have tW:w6.cell? ⟨sO,0,none⟩=some (.int .u8 aV):=cz lu.out 0 rfl;have tX:w6.cell? ⟨sO,1,none⟩=some (.int .u8 bh):=cz lu.out 1 rfl;have tY:w6.cell? ⟨sO,2,none⟩=some (.int .u16 bp):=cz lu.out 2 rfl;have tZ:w6.cell? ⟨sO,3,none⟩=some (.int .u32 bw):=cz lu.out 3 rfl;have uX:w6.cell? ⟨sO,4,none⟩=some (.slice fE cA.length fF):=cz lu.out 4 rfl;have ua:=ae lu.out 0;have uf:=ae lu.out 1;have ug:=ae lu.out 2;have uh:=ae lu.out 3;have uY:=ae lu.out 4)|((with_reducible refine ay (f:=55) rfl ?_);refine gL 7 Try.func55 #[.agg #[.int .u8 aV,.int .u8 bh,.int .u16 bp,.int .u32 bw,.slice fE cA.length fF]] ?_;(with_reducible refine (bG.calls aV bh bp bw _ _ cA AbY LN _ ?aG ?aH A2.out).mono ?_);(case aG=>exact Kd.aU oh.out (bz HB));(case aH=>exact o7.out);rintro e w8 ⟨An9,rfl,gE,hb⟩;refine ⟨_,rfl, ?_⟩;have aJ:=aa.mk (Kd.bP gE (af (bz HB)));have aQ:=aa.mk (bn (kz lu) hb);have bt:=aa.mk (aq (bz HB) hb);clear lu;clear HB;have DL:=aJ;have lu:=aQ;have HB:=bt;clear aJ aQ bt;(try clear hb);(try clear hb2);(try clear hk);(try clear hi);(try clear gE);obtain ⟨Ao9,co9,eo9⟩:=Kd.da DL.out;subst eo9)|(go_at_call 80;(with_reducible refine (bZ.calls k 0 _ _ AbY OK _ ?aG ?aH A4.out).mono ?_);(case aG=>repeat (first|exact (Kd.av DL.out).2.2|(with_reducible refine Kd.fD ?_ _)|(with_reducible refine Kd.fj ?_ _)|(with_reducible refine Kd.gP ?_)));(case aH=>exact (Kd.av DL.out).2.1);rintro e j4 ⟨rfl,hb⟩;have aJ:=aa.mk (Kd.fU (Kd.rz DL) hb);have aQ:=aa.mk (bn (kz lu) hb);have bt:=aa.mk (aq (bz HB) hb);clear DL;clear lu;clear HB;have DL:=aJ;have lu:=aQ;have HB:=bt;clear aJ aQ bt;(try clear hb);(try clear hb2);(try clear hk);(try clear hi))|(go_at_call 79;(with_reducible refine (bO.calls k OK SH _ A5.out).mono ?_);rintro e w' ⟨rfl,⟨nd,rfl⟩⟩))
  go_ret
  exact ⟨by first|rfl|(simp [aj,ak]<;>rfl)|(simp [*,aj,ak]<;>rfl),bz HB⟩
 ·rw [ax c3] at H
  have oY:(LN==0)=false:=fc c3;have qP:(LN !=0)=true:=lA c3;obtain rfl:=cS H
  go_enter Try.func100,Try.ntmps100
  go_wp2_with (first|((with_reducible refine aA (N:=1) rfl ?_);refine aC ?hg (N:=1) ?hd (cs:= #[.int .u8 aV,.int .u8 bh,.int .u16 bp,.int .u32 bw,.slice fE cA.length fF]) (t:=101) ?hr ?_;(case hd=>rfl);(case hg=>rfl);(case hr=>first|(go_simp;done)|(go_simp;rfl));intro sO hg qf bK hb;have aJ:=aa.mk (aq (bz HB) hb);have aQ:=aa.mk (bK);have bt:=aa.mk ((by rw [hg];exact (af (bz HB)):w.heap.size<=sO));have cr:=aa.mk ((by rw [hg];exact (af (bz HB)):w.heap.size<=sO));clear HB;have HB:=aJ;have lu:=aQ;have Ahg:=bt;have Ahh:=cr;clear aJ aQ bt cr;clear hb bK hg;have AjR:qf.cell? ⟨sO,0,none⟩=some (.int .u8 aV):=cz lu.out 0 rfl;have AjS:qf.cell? ⟨sO,1,none⟩=some (.int .u8 bh):=cz lu.out 1 rfl;have AjT:qf.cell? ⟨sO,2,none⟩=some (.int .u16 bp):=cz lu.out 2 rfl;have AjU:qf.cell? ⟨sO,3,none⟩=some (.int .u32 bw):=cz lu.out 3 rfl;have AjV:qf.cell? ⟨sO,4,none⟩=some (.slice fE cA.length fF):=cz lu.out 4 rfl;have AjW:=ae lu.out 0;have AjX:=ae lu.out 1;have AjY:=ae lu.out 2;have AjZ:=ae lu.out 3;have Aj0:=ae lu.out 4)|((with_reducible refine ay (f:=55) rfl ?_);refine gL 7 Try.func55 #[.agg #[.int .u8 aV,.int .u8 bh,.int .u16 bp,.int .u32 bw,.slice fE cA.length fF]] ?_;(with_reducible refine (bG.calls aV bh bp bw _ _ cA AbY LN _ ?aG ?aH A2.out).mono ?_);(case aG=>exact Kd.aU oh.out (bz HB));(case aH=>exact o7.out);rintro e sR ⟨An9,rfl,gE,hb⟩;refine ⟨_,rfl, ?_⟩;have aJ:=aa.mk (Kd.bP gE (af (bz HB)));have aQ:=aa.mk (bn (kz lu) hb);have bt:=aa.mk (aq (bz HB) hb);clear lu;clear HB;have DL:=aJ;have lu:=aQ;have HB:=bt;clear aJ aQ bt;(try clear hb);(try clear hb2);(try clear hk);(try clear hi);(try clear gE)))
  go_ret
  exact ⟨by first|rfl|(simp [aj,ak]<;>rfl)|(simp [*,aj,ak]<;>rfl),bz HB⟩
def ng.f (aV:Int) (bh:Int) (bp:Int) (bw:Int) (cA:List Int):Option (Bool):=if aV=8 then (some (bh==0)) else (if aV=0 then (some (bh==0)) else (some false))
theorem ng.calls (aV:Int) (bh:Int) (bp:Int) (bw:Int) (fE:Option Addr) (fF:Nat) (cA:List Int) (r:Bool) (w:World) (jU:Kd.C (Kd.int .u8) w fE cA.length cA) (jV:cA.length<=fF) (h:ng.f aV bh bp bw cA=some r):
  Calls Try.prog 101 #[.agg #[.int .u8 aV,.int .u8 bh,.int .u16 bp,.int .u32 bw,.slice fE cA.length fF]] w fun e w'=>e= .returned (.bool r) /\ Below w.heap.size w w':=by
 have ny:=Try.underlying101;have oh:=aa.mk jU;have o7:=aa.mk jV;clear jU jV;have HB:=gj w;have H:(if aV=8 then (some (bh==0)) else (if aV=0 then (some (bh==0)) else (some false)))=some r:=h;clear h
 by_cases c2:aV=8
 ·rw [au c2] at H
  have kg:(aV==8)=true:=fH c2;have mG:(aV !=8)=false:=kO c2;clear c2;obtain rfl:=cS H
  go_enter Try.func101,Try.ntmps101
  go_wp2_with (first|((with_reducible refine aA (N:=1) rfl ?_);refine aC ?hg (N:=1) ?hd (cs:= #[.int .u8 aV,.int .u8 bh,.int .u16 bp,.int .u32 bw,.slice fE cA.length fF]) (t:=101) ?hr ?_;(case hd=>rfl);(case hg=>rfl);(case hr=>first|(go_simp;done)|(go_simp;rfl));intro nP hg w3 bK hb;have aJ:=aa.mk (aq (bz HB) hb);have aQ:=aa.mk (bK);have bt:=aa.mk ((by rw [hg];exact (af (bz HB)):w.heap.size<=nP));have cr:=aa.mk ((by rw [hg];exact (af (bz HB)):w.heap.size<=nP));clear HB;have HB:=aJ;have kJ:=aQ;have X6:=bt;have X7:=cr;clear aJ aQ bt cr;clear hb bK hg;have pP:w3.cell? ⟨nP,0,none⟩=some (.int .u8 aV):=cz kJ.out 0 rfl;have pQ:w3.cell? ⟨nP,1,none⟩=some (.int .u8 bh):=cz kJ.out 1 rfl;have pR:w3.cell? ⟨nP,2,none⟩=some (.int .u16 bp):=cz kJ.out 2 rfl;have pS:w3.cell? ⟨nP,3,none⟩=some (.int .u32 bw):=cz kJ.out 3 rfl;have tU:w3.cell? ⟨nP,4,none⟩=some (.slice fE cA.length fF):=cz kJ.out 4 rfl;have pT:=ae kJ.out 0;have pU:=ae kJ.out 1;have pV:=ae kJ.out 2;have pW:=ae kJ.out 3;have tV:=ae kJ.out 4))
  go_ret
  exact ⟨by first|rfl|(simp [aj,ak]<;>rfl)|(simp [*,aj,ak]<;>rfl),bz HB⟩
 ·rw [ax c2] at H
  have kg:(aV==8)=false:=fc c2;have mG:(aV !=8)=true:=lA c2
  by_cases c5:aV=0
  ·rw [au c5] at H
   have mS:(aV==0)=true:=fH c5;have qz:(aV !=0)=false:=kO c5;clear c5;obtain rfl:=cS H
   go_enter Try.func101,Try.ntmps101
   go_wp2_with (first|((with_reducible refine aA (N:=1) rfl ?_);refine aC ?hg (N:=1) ?hd (cs:= #[.int .u8 aV,.int .u8 bh,.int .u16 bp,.int .u32 bw,.slice fE cA.length fF]) (t:=101) ?hr ?_;(case hd=>rfl);(case hg=>rfl);(case hr=>first|(go_simp;done)|(go_simp;rfl));intro nP hg w6 bK hb;have aJ:=aa.mk (aq (bz HB) hb);have aQ:=aa.mk (bK);have bt:=aa.mk ((by rw [hg];exact (af (bz HB)):w.heap.size<=nP));have cr:=aa.mk ((by rw [hg];exact (af (bz HB)):w.heap.size<=nP));clear HB;have HB:=aJ;have kJ:=aQ;have X6:=bt;have X7:=cr;clear aJ aQ bt cr;clear hb bK hg;have tW:w6.cell? ⟨nP,0,none⟩=some (.int .u8 aV):=cz kJ.out 0 rfl;have tX:w6.cell? ⟨nP,1,none⟩=some (.int .u8 bh):=cz kJ.out 1 rfl;have tY:w6.cell? ⟨nP,2,none⟩=some (.int .u16 bp):=cz kJ.out 2 rfl;have tZ:w6.cell? ⟨nP,3,none⟩=some (.int .u32 bw):=cz kJ.out 3 rfl;have uX:w6.cell? ⟨nP,4,none⟩=some (.slice fE cA.length fF):=cz kJ.out 4 rfl;have ua:=ae kJ.out 0;have uf:=ae kJ.out 1;have ug:=ae kJ.out 2;have uh:=ae kJ.out 3;have uY:=ae kJ.out 4))
   go_ret
   exact ⟨by first|rfl|(simp [aj,ak]<;>rfl)|(simp [*,aj,ak]<;>rfl),bz HB⟩
  ·rw [ax c5] at H
   have mS:(aV==0)=false:=fc c5;have qz:(aV !=0)=true:=lA c5;obtain rfl:=cS H
   go_enter Try.func101,Try.ntmps101
   go_wp2_with (first|((with_reducible refine aA (N:=1) rfl ?_);refine aC ?hg (N:=1) ?hd (cs:= #[.int .u8 aV,.int .u8 bh,.int .u16 bp,.int .u32 bw,.slice fE cA.length fF]) (t:=101) ?hr ?_;(case hd=>rfl);(case hg=>rfl);(case hr=>first|(go_simp;done)|(go_simp;rfl));intro nP hg w8 bK hb;have aJ:=aa.mk (aq (bz HB) hb);have aQ:=aa.mk (bK);have bt:=aa.mk ((by rw [hg];exact (af (bz HB)):w.heap.size<=nP));have cr:=aa.mk ((by rw [hg];exact (af (bz HB)):w.heap.size<=nP));clear HB;have HB:=aJ;have kJ:=aQ;have X6:=bt;have X7:=cr;clear aJ aQ bt cr;clear hb bK hg;have CO:w8.cell? ⟨nP,0,none⟩=some (.int .u8 aV):=cz kJ.out 0 rfl;have CP:w8.cell? ⟨nP,1,none⟩=some (.int .u8 bh):=cz kJ.out 1 rfl;have CQ:w8.cell? ⟨nP,2,none⟩=some (.int .u16 bp):=cz kJ.out 2 rfl;have CR:w8.cell? ⟨nP,3,none⟩=some (.int .u32 bw):=cz kJ.out 3 rfl;have Gl:w8.cell? ⟨nP,4,none⟩=some (.slice fE cA.length fF):=cz kJ.out 4 rfl;have CS:=ae kJ.out 0;have CT:=ae kJ.out 1;have CU:=ae kJ.out 2;have CV:=ae kJ.out 3;have Gm:=ae kJ.out 4))
   go_ret
   exact ⟨by first|rfl|(simp [aj,ak]<;>rfl)|(simp [*,aj,ak]<;>rfl),bz HB⟩
def mF.f (aV:Int) (bh:Int) (bp:Int) (bw:Int) (cA:List Int):Option (Bool):=if aV=3 then (some true) else (if aV=11 then (some true) else (some (aV==12)))
theorem mF.calls (aV:Int) (bh:Int) (bp:Int) (bw:Int) (fE:Option Addr) (fF:Nat) (cA:List Int) (r:Bool) (w:World) (jU:Kd.C (Kd.int .u8) w fE cA.length cA) (jV:cA.length<=fF) (h:mF.f aV bh bp bw cA=some r):
  Calls Try.prog 102 #[.agg #[.int .u8 aV,.int .u8 bh,.int .u16 bp,.int .u32 bw,.slice fE cA.length fF]] w fun e w'=>e= .returned (.bool r) /\ Below w.heap.size w w':=by
 have ny:=Try.underlying101;have oh:=aa.mk jU;have o7:=aa.mk jV;clear jU jV;have HB:=gj w;have H:(if aV=3 then (some true) else (if aV=11 then (some true) else (some (aV==12))))=some r:=h;clear h
 by_cases c2:aV=3
 ·rw [au c2] at H
  have kg:(aV==3)=true:=fH c2;have mG:(aV !=3)=false:=kO c2;clear c2;obtain rfl:=cS H
  go_enter Try.func102,Try.ntmps102
  go_wp2_with (first|((with_reducible refine aA (N:=1) rfl ?_);refine aC ?hg (N:=1) ?hd (cs:= #[.int .u8 aV,.int .u8 bh,.int .u16 bp,.int .u32 bw,.slice fE cA.length fF]) (t:=101) ?hr ?_;(case hd=>rfl);(case hg=>rfl);(case hr=>first|(go_simp;done)|(go_simp;rfl));intro nQ hg w3 bK hb;have aJ:=aa.mk (aq (bz HB) hb);have aQ:=aa.mk (bK);have bt:=aa.mk ((by rw [hg];exact (af (bz HB)):w.heap.size<=nQ));have cr:=aa.mk ((by rw [hg];exact (af (bz HB)):w.heap.size<=nQ));clear HB;have HB:=aJ;have kK:=aQ;have X8:=bt;have X9:=cr;clear aJ aQ bt cr;clear hb bK hg;have pP:w3.cell? ⟨nQ,0,none⟩=some (.int .u8 aV):=cz kK.out 0 rfl;have pQ:w3.cell? ⟨nQ,1,none⟩=some (.int .u8 bh):=cz kK.out 1 rfl;have pR:w3.cell? ⟨nQ,2,none⟩=some (.int .u16 bp):=cz kK.out 2 rfl;have pS:w3.cell? ⟨nQ,3,none⟩=some (.int .u32 bw):=cz kK.out 3 rfl;have tU:w3.cell? ⟨nQ,4,none⟩=some (.slice fE cA.length fF):=cz kK.out 4 rfl;have pT:=ae kK.out 0;have pU:=ae kK.out 1;have pV:=ae kK.out 2;have pW:=ae kK.out 3;have tV:=ae kK.out 4))
  go_ret
  exact ⟨by first|rfl|(simp [aj,ak]<;>rfl)|(simp [*,aj,ak]<;>rfl),bz HB⟩
 ·rw [ax c2] at H
  have kg:(aV==3)=false:=fc c2;have mG:(aV !=3)=true:=lA c2
  by_cases c5:aV=11
  ·rw [au c5] at H
   have mS:(aV==11)=true:=fH c5;have qz:(aV !=11)=false:=kO c5;clear c5;obtain rfl:=cS H
   go_enter Try.func102,Try.ntmps102
   go_wp2_with (first|((with_reducible refine aA (N:=1) rfl ?_);refine aC ?hg (N:=1) ?hd (cs:= #[.int .u8 aV,.int .u8 bh,.int .u16 bp,.int .u32 bw,.slice fE cA.length fF]) (t:=101) ?hr ?_;(case hd=>rfl);(case hg=>rfl);(case hr=>first|(go_simp;done)|(go_simp;rfl));intro nQ hg w6 bK hb;have aJ:=aa.mk (aq (bz HB) hb);have aQ:=aa.mk (bK);have bt:=aa.mk ((by rw [hg];exact (af (bz HB)):w.heap.size<=nQ));have cr:=aa.mk ((by rw [hg];exact (af (bz HB)):w.heap.size<=nQ));clear HB;have HB:=aJ;have kK:=aQ;have X8:=bt;have X9:=cr;clear aJ aQ bt cr;clear hb bK hg;have tW:w6.cell? ⟨nQ,0,none⟩=some (.int .u8 aV):=cz kK.out 0 rfl;have tX:w6.cell? ⟨nQ,1,none⟩=some (.int .u8 bh):=cz kK.out 1 rfl;have tY:w6.cell? ⟨nQ,2,none⟩=some (.int .u16 bp):=cz kK.out 2 rfl;have tZ:w6.cell? ⟨nQ,3,none⟩=some (.int .u32 bw):=cz kK.out 3 rfl;have uX:w6.cell? ⟨nQ,4,none⟩=some (.slice fE cA.length fF):=cz kK.out 4 rfl;have ua:=ae kK.out 0;have uf:=ae kK.out 1;have ug:=ae kK.out 2;have uh:=ae kK.out 3;have uY:=ae kK.out 4))
   go_ret
   exact ⟨by first|rfl|(simp [aj,ak]<;>rfl)|(simp [*,aj,ak]<;>rfl),bz HB⟩
  ·rw [ax c5] at H
   have mS:(aV==11)=false:=fc c5;have qz:(aV !=11)=true:=lA c5;obtain rfl:=cS H
   go_enter Try.func102,Try.ntmps102
   go_wp2_with (first|((with_reducible refine aA (N:=1) rfl ?_);refine aC ?hg (N:=1) ?hd (cs:= #[.int .u8 aV,.int .u8 bh,.int .u16 bp,.int .u32 bw,.slice fE cA.length fF]) (t:=101) ?hr ?_;(case hd=>rfl);(case hg=>rfl);(case hr=>first|(go_simp;done)|(go_simp;rfl));intro nQ hg w8 bK hb;have aJ:=aa.mk (aq (bz HB) hb);have aQ:=aa.mk (bK);have bt:=aa.mk ((by rw [hg];exact (af (bz HB)):w.heap.size<=nQ));have cr:=aa.mk ((by rw [hg];exact (af (bz HB)):w.heap.size<=nQ));clear HB;have HB:=aJ;have kK:=aQ;have X8:=bt;have X9:=cr;clear aJ aQ bt cr;clear hb bK hg;have CO:w8.cell? ⟨nQ,0,none⟩=some (.int .u8 aV):=cz kK.out 0 rfl;have CP:w8.cell? ⟨nQ,1,none⟩=some (.int .u8 bh):=cz kK.out 1 rfl;have CQ:w8.cell? ⟨nQ,2,none⟩=some (.int .u16 bp):=cz kK.out 2 rfl;have CR:w8.cell? ⟨nQ,3,none⟩=some (.int .u32 bw):=cz kK.out 3 rfl;have Gl:w8.cell? ⟨nQ,4,none⟩=some (.slice fE cA.length fF):=cz kK.out 4 rfl;have CS:=ae kK.out 0;have CT:=ae kK.out 1;have CU:=ae kK.out 2;have CV:=ae kK.out 3;have Gm:=ae kK.out 4))
   go_ret
   exact ⟨by first|rfl|(simp [aj,ak]<;>rfl)|(simp [*,aj,ak]<;>rfl),bz HB⟩
end Go.Proofs.Ytkmimamminddiaa.PB
namespace Go.Proofs.Ytkmimamminddiaa.Pure
open Go.RowKit Go.Proofs.Ytkmimamminddiaa.PB Go.Proofs.ai.bX Go.Proofs.ai.dh
open Go.Proofs.Ytkmimamminddiaa.Spec Go.Proofs.Ytkmimamminddiaa.j8
def tT (a b:Int) (x:List Int):Int:=norm (a / 65536+a % 65536+b / 65536+b % 65536+6+(x.length:Int) % 65536)+oT (words x)
theorem Fl {a b:Int} {x:List Int} (ha:0<=a) (hb:0<=b) (h:gU x):0<=tT a b x:=by
 have h1:=iW (a / 65536+a % 65536+b / 65536+b % 65536+6+(x.length:Int) % 65536) (by omega);have h2:=nO _ (fO x h);unfold tT
 omega
theorem qF {s d q k f w c u:Int} {o l:List Int} (hf:0<=f /\ f<=255) (ho:gU o) (hl:gU l):gU (l7 s d q k f w c u o l):=(OE hf).append (ho.append hl)
theorem oU (s d q k f w c u:Int) (o l:List Int):(l7 s d q k f w c u o l).length=20+o.length+l.length:=by
 unfold l7;rw [List.length_append,List.length_append,G5]
 omega
section
variable {a b s d q k f w c u:Int} {o l:List Int}
theorem xM (h4:(o.length:Int) % 4=0) (xN:(o.length:Int)<=40) (hl:(l.length:Int)<=3000):OA s d q k f w c u o l=(l7 s d q k f w c u o l,0):=by
 unfold OA;rw [ax (by omega),ax (by omega)]
theorem SI (ha:0<=a /\ a<=4294967295) (hb:0<=b /\ b<=4294967295) {x:List Int} (hx:gU x) (hl:x.length<=3100) (K:Nat) (hK:4000<=K):((kn.f K a b 6 (x.length:Int)).bind fun t=>(gF.f K t x).bind fun t2=>eB.f K t2)=some (norm (tT a b x)) /\ ((ez.f K a b 6 (x.length:Int)).bind fun t=>(bZ.f K t x).bind fun t2=>bO.f K t2)=some (norm (tT a b x)):=by
 have hp:=iW (a / 65536+a % 65536+b / 65536+b % 65536+6+(x.length:Int) % 65536) (by omega);have hr:=l6 (words x) _ hp.1 (by omega) (fO _ hx);have hn:=nZ (words x) _ hp.1 (by omega) (fO _ hx)
 constructor
 ·rw [oo.Fk a b 6 _ ha hb (by omega) K (by omega),bA,oo.add_eq _ _ hx (by omega) hp.1 (by omega) K (by omega),bA,oo.fold_eq _ hr.1 hr.2 K (by omega),hn]
  rfl
 ·rw [oo.yR a b 6 _ ha hb (by omega) K (by omega),bA,oo.xL _ _ hx (by omega) hp.1 (by omega) K (by omega),bA,oo.sN _ hr.1 hr.2 K (by omega),hn]
  rfl
theorem Fm (ha:0<=a /\ a<=4294967295) (hb:0<=b /\ b<=4294967295) (hf:0<=f /\ f<=255) (ho:gU o) (h4:(o.length:Int) % 4=0) (xN:(o.length:Int)<=40) (h:gU l) (hl:(l.length:Int)<=3000) (K:Nat) (hK:4000<=K):lG.f K a b s d q k f w c u o l=some (norm (tT a b (l7 s d q k f w c u o l)),true):=by
 have hL:=oU s d q k f w c u o l;obtain ⟨x,hx⟩:∃ x,x=l7 s d q k f w c u o l:=⟨_,rfl⟩
 have hB:gU x:=by rw [hx];exact qF hf ho h
 have h1:=(SI ha hb hB (by rw [hx];omega) K hK).1;unfold lG.f;rw [Fg (by omega) (by omega) K (by omega),xM h4 xN hl,<- hx,bA];obtain ⟨t1,e1,h1⟩:=Option.bind_eq_some_iff.1 h1;obtain ⟨t2,e2,h1⟩:=Option.bind_eq_some_iff.1 h1
 dsimp only
 rw [e1,bA,e2,bA,h1,bA]
 rfl
theorem VR (ha:0<=a /\ a<=4294967295) (hb:0<=b /\ b<=4294967295) (hf:0<=f /\ f<=255) (ho:gU o) (h4:(o.length:Int) % 4=0) (xN:(o.length:Int)<=40) (h:gU l) (hl:(l.length:Int)<=3000) (K:Nat) (hK:4000<=K):xJ.f K a b s d q k f w c u o l=some (65535 - norm (tT a b (l7 s d q k f w 0 u o l))):=by
 have hn:=iW _ (Fl ha.1 hb.1 (qF (s:=s) (d:=d) (q:=q) (k:=k) (w:=w) (c:=0) (u:=u) hf ho h));unfold xJ.f;rw [Fm ha hb hf ho h4 xN h hl K hK,bA,au rfl,show (IntKind.u16.max:Int)=65535 from rfl,xK hn.1 hn.2]
theorem OL (ha:0<=a /\ a<=4294967295) (hb:0<=b /\ b<=4294967295) (hf:0<=f /\ f<=255) (ho:gU o) (h4:(o.length:Int) % 4=0) (xN:(o.length:Int)<=40) (h:gU l) (hl:(l.length:Int)<=3000) (K:Nat) (hK:4000<=K):pE.f K a b s d q k f w c u o l=some (norm (tT a b (l7 s d q k f w c u o l))==65535):=by
 unfold pE.f;rw [Fm ha hb hf ho h4 xN h hl K hK,bA,au rfl]
theorem JV (ha:0<=a /\ a<=4294967295) (hb:0<=b /\ b<=4294967295) (hf:0<=f /\ f<=255) (ho:gU o) (h4:(o.length:Int) % 4=0) (xN:(o.length:Int)<=40) (h:gU l) (hl:(l.length:Int)<=3000) (K:Nat) (hK:4000<=K):gT.f K a b s d q k f w c u o l=some (65535 - norm (tT a b (l7 s d q k f w 0 u o l))):=by
 have hL:=oU s d q k f w 0 u o l;have hn:=iW _ (Fl ha.1 hb.1 (qF (s:=s) (d:=d) (q:=q) (k:=k) (w:=w) (c:=0) (u:=u) hf ho h));obtain ⟨x,hx⟩:∃ x,x=l7 s d q k f w 0 u o l:=⟨_,rfl⟩
 have hB:gU x:=by rw [hx];exact qF hf ho h
 have h1:=(SI ha hb hB (by rw [hx];omega) K hK).2;unfold gT.f;rw [<- hx] at hn|-
 rw [vW (by omega) (by omega) K (by omega),xM h4 xN hl,<- hx,bA];obtain ⟨t1,e1,h1⟩:=Option.bind_eq_some_iff.1 h1;obtain ⟨t2,e2,h1⟩:=Option.bind_eq_some_iff.1 h1
 dsimp only
 rw [au rfl,e1,bA,e2,bA,h1,bA,show (IntKind.u16.max:Int)=65535 from rfl,xK hn.1 hn.2]
theorem LO (ha:0<=a /\ a<=4294967295) (hb:0<=b /\ b<=4294967295) (hf:0<=f /\ f<=255) (ho:gU o) (h4:(o.length:Int) % 4=0) (xN:(o.length:Int)<=40) (h:gU l) (hl:(l.length:Int)<=3000) (K:Nat) (hK:4000<=K):j9.f K a b s d q k f w c u o l=some (norm (tT a b (l7 s d q k f w c u o l))==65535):=by
 have hL:=oU s d q k f w c u o l;obtain ⟨x,hx⟩:∃ x,x=l7 s d q k f w c u o l:=⟨_,rfl⟩
 have hB:gU x:=by rw [hx];exact qF hf ho h
 have h1:=(SI ha hb hB (by rw [hx];omega) K hK).2;unfold j9.f;rw [<- hx,vW (by omega) (by omega) K (by omega),xM h4 xN hl,<- hx,bA];obtain ⟨t1,e1,h1⟩:=Option.bind_eq_some_iff.1 h1;obtain ⟨t2,e2,h1⟩:=Option.bind_eq_some_iff.1 h1
 dsimp only
 rw [au rfl,e1,bA,e2,bA,h1,bA]
end
end Go.Proofs.Ytkmimamminddiaa.Pure
namespace Go.Proofs.Ytkmimamminddiaa.PB
open Go.RowKit Go.Proofs.ai.bX Go.Proofs.ai.dh Go.Proofs.ai.iL
attribute [local go_sem] dF dG eG eH cQ cR dH dI
def ke.f (k:Nat) (a0:Int) (a1:Int) (cT:Int) (cU:Int) (cY:Int) (fu:List Int):Option (Bool):=if cY=0 then (some true) else ((bT.f cT cU cY fu).bind fun DM=>(if DM.2=0 then ((ez.f k a0 a1 17 (DM.1.length:Int)).bind fun OM=>((bZ.f k OM DM.1).bind fun OO=>((bO.f k OO).bind fun SJ=>(some (SJ==65535))))) else (some false)))
theorem ke.calls (k:Nat) (a0:Int) (a1:Int) (cT:Int) (cU:Int) (cY:Int) (iU:Option Addr) (iV:Nat) (fu:List Int) (r:Bool) (w:World) (sZ:Kd.C (Kd.int .u8) w iU fu.length fu) (tg:fu.length<=iV) (h:ke.f k a0 a1 cT cU cY fu=some r):
  Calls Try.prog 40 #[.int .u32 a0,.int .u32 a1,.agg #[.int .u16 cT,.int .u16 cU,.int .u16 cY,.slice iU fu.length iV]] w fun e w'=>e= .returned (.bool r) /\ Below w.heap.size w w':=by
 have wB:=Try.underlying83;have sJ:=aa.mk sZ;have sK:=aa.mk tg;clear sZ tg;have HB:=gj w;have H:(if cY=0 then (some true) else ((bT.f cT cU cY fu).bind fun DM=>(if DM.2=0 then ((ez.f k a0 a1 17 (DM.1.length:Int)).bind fun OM=>((bZ.f k OM DM.1).bind fun OO=>((bO.f k OO).bind fun SJ=>(some (SJ==65535))))) else (some false))))=some r:=h;clear h
 by_cases c4:cY=0
 ·rw [au c4] at H
  have mH:(cY==0)=true:=fH c4;have xQ:(cY !=0)=false:=kO c4;clear c4;obtain rfl:=cS H
  go_enter Try.func40,Try.ntmps40
  go_wp2_with (first|((with_reducible refine aA (N:=5) rfl ?_);(try (refine eN (by rfl) ?_;dsimp only));refine aC ?hg (N:=5) ?hd (cs:= #[.int .u16 cT,.int .u16 cU,.int .u16 cY,.slice iU fu.length iV]) (t:=83) ?hr ?_;(case hd=>rfl);(case hg=>rfl);(case hr=>first|(go_simp;done)|(go_simp;rfl));intro pJ hg w5 bK hb;have aJ:=aa.mk (aq (bz HB) hb);have aQ:=aa.mk (bK);have bt:=aa.mk ((by rw [hg];exact (af (bz HB)):w.heap.size<=pJ));have cr:=aa.mk ((by rw [hg];exact (af (bz HB)):w.heap.size<=pJ));clear HB;have HB:=aJ;have j3:=aQ;have Ya:=bt;have Yb:=cr;clear aJ aQ bt cr;clear hb bK hg;have FR:w5.cell? ⟨pJ,0,none⟩=some (.int .u16 cT):=cz j3.out 0 rfl;have FT:w5.cell? ⟨pJ,1,none⟩=some (.int .u16 cU):=cz j3.out 1 rfl;have FU:w5.cell? ⟨pJ,2,none⟩=some (.int .u16 cY):=cz j3.out 2 rfl;have FV:w5.cell? ⟨pJ,3,none⟩=some (.slice iU fu.length iV):=cz j3.out 3 rfl;have FW:=ae j3.out 0;have FX:=ae j3.out 1;have FY:=ae j3.out 2;have FZ:=ae j3.out 3))
  go_ret
  exact ⟨by first|rfl|(simp [aj,ak]<;>rfl)|(simp [*,aj,ak]<;>rfl),bz HB⟩
 ·rw [ax c4] at H
  have mH:(cY==0)=false:=fc c4;have xQ:(cY !=0)=true:=lA c4;replace H:=cZ H;obtain ⟨⟨VS,LP⟩,Bc,H⟩:=H
  (try dsimp -simprocs only at H)
  have A7:=aa.mk Bc;clear Bc
  by_cases c8:LP=0
  ·rw [au c8] at H
   have nX:(LP==0)=true:=fH c8;have CB:(LP !=0)=false:=kO c8;clear c8;replace H:=cZ H;obtain ⟨OM,Wv,H⟩:=H
   (try dsimp -simprocs only at H)
   have A9:=aa.mk Wv;clear Wv;replace H:=cZ H;obtain ⟨OO,zm,H⟩:=H
   (try dsimp -simprocs only at H)
   have KL:=aa.mk zm;clear zm;replace H:=cZ H;obtain ⟨SJ,Iv,H⟩:=H
   (try dsimp -simprocs only at H)
   have A11:=aa.mk Iv;clear Iv;obtain rfl:=cS H
   go_enter Try.func40,Try.ntmps40
   go_wp2_with (first|((with_reducible refine aA (N:=5) rfl ?_);(try (refine eN (by rfl) ?_;dsimp only));refine aC ?hg (N:=5) ?hd (cs:= #[.int .u16 cT,.int .u16 cU,.int .u16 cY,.slice iU fu.length iV]) (t:=83) ?hr ?_;(case hd=>rfl);(case hg=>rfl);(case hr=>first|(go_simp;done)|(go_simp;rfl));intro pJ hg l5 bK hb;have aJ:=aa.mk (aq (bz HB) hb);have aQ:=aa.mk (bK);have bt:=aa.mk ((by rw [hg];exact (af (bz HB)):w.heap.size<=pJ));have cr:=aa.mk ((by rw [hg];exact (af (bz HB)):w.heap.size<=pJ));clear HB;have HB:=aJ;have j3:=aQ;have Ya:=bt;have Yb:=cr;clear aJ aQ bt cr;clear hb bK hg;have F2:l5.cell? ⟨pJ,0,none⟩=some (.int .u16 cT):=cz j3.out 0 rfl;have F3:l5.cell? ⟨pJ,1,none⟩=some (.int .u16 cU):=cz j3.out 1 rfl;have F4:l5.cell? ⟨pJ,2,none⟩=some (.int .u16 cY):=cz j3.out 2 rfl;have F5:l5.cell? ⟨pJ,3,none⟩=some (.slice iU fu.length iV):=cz j3.out 3 rfl;have F6:=ae j3.out 0;have F7:=ae j3.out 1;have F8:=ae j3.out 2;have F9:=ae j3.out 3)|((with_reducible refine ay (f:=48) rfl ?_);refine gL 14 Try.func48 #[.agg #[.int .u16 cT,.int .u16 cU,.int .u16 cY,.slice iU fu.length iV]] ?_;(with_reducible refine (bT.calls cT cU cY _ _ fu VS LP _ ?aG ?aH A7.out).mono ?_);(case aG=>exact Kd.aU sJ.out (bz HB));(case aH=>exact sK.out);rintro e qN ⟨Aoa,rfl,gE,hb⟩;refine ⟨_,rfl, ?_⟩;have aJ:=aa.mk (Kd.bP gE (af (bz HB)));have aQ:=aa.mk (bn (kz j3) hb);have bt:=aa.mk (aq (bz HB) hb);clear j3;clear HB;have DN:=aJ;have j3:=aQ;have HB:=bt;clear aJ aQ bt;(try clear hb);(try clear hb2);(try clear hk);(try clear hi);(try clear gE);obtain ⟨UY,UZ,U0⟩:=Kd.da DN.out;subst U0)|(go_at_call 82;(with_reducible refine (ez.calls k a0 a1 17 (VS.length:Int) OM _ A9.out).mono ?_);rintro e w' ⟨rfl,⟨nd,rfl⟩⟩)|(go_at_call 80;(with_reducible refine (bZ.calls k OM _ _ VS OO _ ?aG ?aH KL.out).mono ?_);(case aG=>repeat (first|exact (Kd.av DN.out).2.2|(with_reducible refine Kd.fD ?_ _)|(with_reducible refine Kd.fj ?_ _)|(with_reducible refine Kd.gP ?_)));(case aH=>exact (Kd.av DN.out).2.1);rintro e qM ⟨rfl,hb⟩;have aJ:=aa.mk (Kd.fU (Kd.rz DN) hb);have aQ:=aa.mk (bn (kz j3) hb);have bt:=aa.mk (aq (bz HB) hb);clear DN;clear j3;clear HB;have DN:=aJ;have j3:=aQ;have HB:=bt;clear aJ aQ bt;(try clear hb);(try clear hb2);(try clear hk);(try clear hi))|(go_at_call 79;(with_reducible refine (bO.calls k OO SJ _ A11.out).mono ?_);rintro e w' ⟨rfl,⟨nd,rfl⟩⟩))
   go_ret
   exact ⟨by first|rfl|(simp [aj,ak]<;>rfl)|(simp [*,aj,ak]<;>rfl),bz HB⟩
  ·rw [ax c8] at H
   have nX:(LP==0)=false:=fc c8;have CB:(LP !=0)=true:=lA c8;obtain rfl:=cS H
   go_enter Try.func40,Try.ntmps40
   go_wp2_with (first|((with_reducible refine aA (N:=5) rfl ?_);(try (refine eN (by rfl) ?_;dsimp only));refine aC ?hg (N:=5) ?hd (cs:= #[.int .u16 cT,.int .u16 cU,.int .u16 cY,.slice iU fu.length iV]) (t:=83) ?hr ?_;(case hd=>rfl);(case hg=>rfl);(case hr=>first|(go_simp;done)|(go_simp;rfl));intro pJ hg Bm bK hb;have aJ:=aa.mk (aq (bz HB) hb);have aQ:=aa.mk (bK);have bt:=aa.mk ((by rw [hg];exact (af (bz HB)):w.heap.size<=pJ));have cr:=aa.mk ((by rw [hg];exact (af (bz HB)):w.heap.size<=pJ));clear HB;have HB:=aJ;have j3:=aQ;have Ya:=bt;have Yb:=cr;clear aJ aQ bt cr;clear hb bK hg;have MT:Bm.cell? ⟨pJ,0,none⟩=some (.int .u16 cT):=cz j3.out 0 rfl;have MU:Bm.cell? ⟨pJ,1,none⟩=some (.int .u16 cU):=cz j3.out 1 rfl;have MV:Bm.cell? ⟨pJ,2,none⟩=some (.int .u16 cY):=cz j3.out 2 rfl;have MW:Bm.cell? ⟨pJ,3,none⟩=some (.slice iU fu.length iV):=cz j3.out 3 rfl;have MX:=ae j3.out 0;have MY:=ae j3.out 1;have MZ:=ae j3.out 2;have M0:=ae j3.out 3)|((with_reducible refine ay (f:=48) rfl ?_);refine gL 14 Try.func48 #[.agg #[.int .u16 cT,.int .u16 cU,.int .u16 cY,.slice iU fu.length iV]] ?_;(with_reducible refine (bT.calls cT cU cY _ _ fu VS LP _ ?aG ?aH A7.out).mono ?_);(case aG=>exact Kd.aU sJ.out (bz HB));(case aH=>exact sK.out);rintro e w19 ⟨Aoa,rfl,gE,hb⟩;refine ⟨_,rfl, ?_⟩;have aJ:=aa.mk (Kd.bP gE (af (bz HB)));have aQ:=aa.mk (bn (kz j3) hb);have bt:=aa.mk (aq (bz HB) hb);clear j3;clear HB;have DN:=aJ;have j3:=aQ;have HB:=bt;clear aJ aQ bt;(try clear hb);(try clear hb2);(try clear hk);(try clear hi);(try clear gE)))
   go_ret
   exact ⟨by first|rfl|(simp [aj,ak]<;>rfl)|(simp [*,aj,ak]<;>rfl),bz HB⟩
attribute [local go_sem] dF dG eG eH cQ cR dH dI
def lY.f (l0:List Int):Option (Int×Int×Int×List Int×Int):=if (l0.length:Int)<8 then (some (0,0,0,([]:List Int),20)) else ((aX.f l0 4).bind fun vX=>(if (wrap64 (vX))<8 then (some (0,0,0,([]:List Int),21)) else (if (l0.length:Int)<(wrap64 (vX)) then (some (0,0,0,([]:List Int),20)) else ((aX.f l0 0).bind fun Ez=>((aX.f l0 2).bind fun G6=>((aX.f l0 6).bind fun JW=>((ew.f l0 8 (wrap64 (vX))).bind fun LQ=>(some (Ez,G6,JW,LQ,0)))))))))
theorem lY.calls (A0:Option Addr) (c0:Nat) (l0:List Int) (r1:Int) (r2:Int) (r3:Int) (r4:List Int) (r5:Int) (w:World) (hr0:Kd.C (Kd.int .u8) w A0 l0.length l0) (hc0:l0.length<=c0) (h:lY.f l0=some (r1,r2,r3,r4,r5)):
  Calls Try.prog 39 #[.slice A0 l0.length c0] w fun e w'=>∃ v3_:Value,e= .returned (.tuple #[.agg #[.int .u16 r1,.int .u16 r2,.int .u16 r3,v3_],.int .i64 r5]) /\ Kd.R (Kd.int .u8) 5 w' w.heap.size (fun _=>True) v3_ r4 /\ Below w.heap.size w w':=by
 have wB:=Try.underlying83;have gh:=aa.mk hr0;have jC:=aa.mk hc0;clear hr0 hc0;have HB:=gj w;have H:(if (l0.length:Int)<8 then (some (0,0,0,([]:List Int),20)) else ((aX.f l0 4).bind fun vX=>(if (wrap64 (vX))<8 then (some (0,0,0,([]:List Int),21)) else (if (l0.length:Int)<(wrap64 (vX)) then (some (0,0,0,([]:List Int),20)) else ((aX.f l0 0).bind fun Ez=>((aX.f l0 2).bind fun G6=>((aX.f l0 6).bind fun JW=>((ew.f l0 8 (wrap64 (vX))).bind fun LQ=>(some (Ez,G6,JW,LQ,0))))))))))=some (r1,r2,r3,r4,r5):=h;clear h
 by_cases c2:(l0.length:Int)<8
 ·rw [au c2] at H
  have kg:decide ((l0.length:Int)<8)=true:=bS c2;have mG:decide (l0.length<8)=true:=bS (by omega);clear c2;simp only [Option.some.injEq,Prod.mk.injEq] at H
  obtain ⟨rfl,rfl,rfl,rfl,rfl⟩:=H
  go_enter Try.func39,Try.ntmps39
  go_wp2_with (first|((with_reducible refine aA (N:=2) rfl ?_);refine aC ?hg (N:=2) ?hd (cs:= #[.int .u16 0,.int .u16 0,.int .u16 0,.slice none 0 0]) (t:=83) ?hr ?_;(case hd=>rfl);(case hg=>rfl);(case hr=>first|(go_simp;done)|(go_simp;rfl));intro i9 hg w3 bK hb;have aJ:=aa.mk (aq (bz HB) hb);have aQ:=aa.mk (bK);have bt:=aa.mk ((by rw [hg];exact (af (bz HB)):w.heap.size<=i9));have cr:=aa.mk ((by rw [hg];exact (af (bz HB)):w.heap.size<=i9));clear HB;have HB:=aJ;have fS:=aQ;have SK:=bt;have SL:=cr;clear aJ aQ bt cr;clear hb bK hg;have pP:w3.cell? ⟨i9,0,none⟩=some (.int .u16 0):=cz fS.out 0 rfl;have pQ:w3.cell? ⟨i9,1,none⟩=some (.int .u16 0):=cz fS.out 1 rfl;have pR:w3.cell? ⟨i9,2,none⟩=some (.int .u16 0):=cz fS.out 2 rfl;have pS:w3.cell? ⟨i9,3,none⟩=some (.slice none 0 0):=cz fS.out 3 rfl;have pT:=ae fS.out 0;have pU:=ae fS.out 1;have pV:=ae fS.out 2;have pW:=ae fS.out 3))
  refine bodyPost_ret (fC rfl _ _ i9 83 #[.int .u16 0,.int .u16 0,.int .u16 0,.slice none 0 0] (0,0) _ rfl (by (repeat (first|with_reducible refine aN ?_ _|with_reducible refine aK ?_|with_reducible refine aM ?_ _|refine bM (cs:= #[.int .u16 0,.int .u16 0,.int .u16 0,.slice none 0 0]) ?_ _ _ rfl));(with_reducible repeat (first|refine aN ?_ _|refine aK ?_|refine aM ?_ _));exact fS.out) Try.underlying83 rfl (by kernel_rfl)) rfl ?_;exact ⟨_,by first|rfl|(simp [aj,ak]<;>rfl)|(simp [*,aj,ak]<;>rfl),by first|exact Kd.cl _ _ _ _ _|exact Kd.ju _ _ _ _ _|exact Kd.jv _ _ _ _ _|exact Kd.jr _ _ _ _ _|exact Kd.js _ _ _ _ _,bz HB⟩
 ·rw [ax c2] at H
  have kg:decide ((l0.length:Int)<8)=false:=gO c2;have mG:decide (l0.length<8)=false:=gO (by omega);clear c2;replace H:=cZ H;obtain ⟨vX,CM,H⟩:=H
  (try dsimp -simprocs only at H)
  have A5:=aa.mk CM;clear CM
  by_cases c6:(wrap64 (vX))<8
  ·rw [au c6] at H
   have sG:decide ((wrap64 (vX))<8)=true:=bS c6;clear c6;simp only [Option.some.injEq,Prod.mk.injEq] at H
   obtain ⟨rfl,rfl,rfl,rfl,rfl⟩:=H
   go_enter Try.func39,Try.ntmps39
   go_wp2_with (first|((with_reducible refine aA (N:=2) rfl ?_);refine aC ?hg (N:=2) ?hd (cs:= #[.int .u16 0,.int .u16 0,.int .u16 0,.slice none 0 0]) (t:=83) ?hr ?_;(case hd=>rfl);(case hg=>rfl);(case hr=>first|(go_simp;done)|(go_simp;rfl));intro i9 hg w7 bK hb;have aJ:=aa.mk (aq (bz HB) hb);have aQ:=aa.mk (bK);have bt:=aa.mk ((by rw [hg];exact (af (bz HB)):w.heap.size<=i9));have cr:=aa.mk ((by rw [hg];exact (af (bz HB)):w.heap.size<=i9));clear HB;have HB:=aJ;have fS:=aQ;have SK:=bt;have SL:=cr;clear aJ aQ bt cr;clear hb bK hg)|((with_reducible refine ay (f:=64) rfl ?_);refine gL 10 Try.func64 #[.slice A0 l0.length c0,.int .i64 4] ?_;(with_reducible refine (aX.calls _ _ l0 4 vX _ ?aG ?aH A5.out).mono ?_);(case aG=>exact Kd.aU gh.out (bz HB));(case aH=>exact jC.out);rintro e w' ⟨rfl,⟨nd,rfl⟩⟩;refine ⟨_,rfl, ?_⟩;(try (rw [fg w7];generalize j5:World.drewN w7 _=w7;have aJ:aa (w7.heap[i9]?=some (.cells #[.int .u16 0,.int .u16 0,.int .u16 0,.slice none 0 0] 83 (0,0))):=⟨by rw [<- j5];exact (kz fS)⟩;have aQ:aa (Below w.heap.size w w7):=⟨by rw [<- j5];exact bz HB⟩;clear fS HB j5;have fS:=aJ;have HB:=aQ;clear aJ aQ));have Ga:w7.cell? ⟨i9,0,none⟩=some (.int .u16 0):=cz fS.out 0 rfl;have Gb:w7.cell? ⟨i9,1,none⟩=some (.int .u16 0):=cz fS.out 1 rfl;have Gc:w7.cell? ⟨i9,2,none⟩=some (.int .u16 0):=cz fS.out 2 rfl;have Gd:w7.cell? ⟨i9,3,none⟩=some (.slice none 0 0):=cz fS.out 3 rfl;have Ge:=ae fS.out 0;have Gf:=ae fS.out 1;have Gg:=ae fS.out 2;have Gh:=ae fS.out 3))
   refine bodyPost_ret (fC rfl _ _ i9 83 #[.int .u16 0,.int .u16 0,.int .u16 0,.slice none 0 0] (0,0) _ rfl (by (repeat (first|with_reducible refine aN ?_ _|with_reducible refine aK ?_|with_reducible refine aM ?_ _|refine bM (cs:= #[.int .u16 0,.int .u16 0,.int .u16 0,.slice none 0 0]) ?_ _ _ rfl));(with_reducible repeat (first|refine aN ?_ _|refine aK ?_|refine aM ?_ _));exact fS.out) Try.underlying83 rfl (by kernel_rfl)) rfl ?_;exact ⟨_,by first|rfl|(simp [aj,ak]<;>rfl)|(simp [*,aj,ak]<;>rfl),by first|exact Kd.cl _ _ _ _ _|exact Kd.ju _ _ _ _ _|exact Kd.jv _ _ _ _ _|exact Kd.jr _ _ _ _ _|exact Kd.js _ _ _ _ _,bz HB⟩
  ·rw [ax c6] at H
   have sG:decide ((wrap64 (vX))<8)=false:=gO c6;clear c6
   by_cases c9:(l0.length:Int)<(wrap64 (vX))
   ·rw [au c9] at H
    have wT:decide ((l0.length:Int)<(wrap64 (vX)))=true:=bS c9;clear c9;simp only [Option.some.injEq,Prod.mk.injEq] at H
    obtain ⟨rfl,rfl,rfl,rfl,rfl⟩:=H
    go_enter Try.func39,Try.ntmps39
    go_wp2_with (first|((with_reducible refine aA (N:=2) rfl ?_);refine aC ?hg (N:=2) ?hd (cs:= #[.int .u16 0,.int .u16 0,.int .u16 0,.slice none 0 0]) (t:=83) ?hr ?_;(case hd=>rfl);(case hg=>rfl);(case hr=>first|(go_simp;done)|(go_simp;rfl));intro i9 hg j4 bK hb;have aJ:=aa.mk (aq (bz HB) hb);have aQ:=aa.mk (bK);have bt:=aa.mk ((by rw [hg];exact (af (bz HB)):w.heap.size<=i9));have cr:=aa.mk ((by rw [hg];exact (af (bz HB)):w.heap.size<=i9));clear HB;have HB:=aJ;have fS:=aQ;have SK:=bt;have SL:=cr;clear aJ aQ bt cr;clear hb bK hg)|((with_reducible refine ay (f:=64) rfl ?_);refine gL 10 Try.func64 #[.slice A0 l0.length c0,.int .i64 4] ?_;(with_reducible refine (aX.calls _ _ l0 4 vX _ ?aG ?aH A5.out).mono ?_);(case aG=>exact Kd.aU gh.out (bz HB));(case aH=>exact jC.out);rintro e w' ⟨rfl,⟨nd,rfl⟩⟩;refine ⟨_,rfl, ?_⟩;(try (rw [fg j4];generalize j5:World.drewN j4 _=j4;have aJ:aa (j4.heap[i9]?=some (.cells #[.int .u16 0,.int .u16 0,.int .u16 0,.slice none 0 0] 83 (0,0))):=⟨by rw [<- j5];exact (kz fS)⟩;have aQ:aa (Below w.heap.size w j4):=⟨by rw [<- j5];exact bz HB⟩;clear fS HB j5;have fS:=aJ;have HB:=aQ;clear aJ aQ));have vB:j4.cell? ⟨i9,0,none⟩=some (.int .u16 0):=cz fS.out 0 rfl;have vC:j4.cell? ⟨i9,1,none⟩=some (.int .u16 0):=cz fS.out 1 rfl;have vD:j4.cell? ⟨i9,2,none⟩=some (.int .u16 0):=cz fS.out 2 rfl;have vE:j4.cell? ⟨i9,3,none⟩=some (.slice none 0 0):=cz fS.out 3 rfl;have vF:=ae fS.out 0;have vG:=ae fS.out 1;have vH:=ae fS.out 2;have vI:=ae fS.out 3))
    refine bodyPost_ret (fC rfl _ _ i9 83 #[.int .u16 0,.int .u16 0,.int .u16 0,.slice none 0 0] (0,0) _ rfl (by (repeat (first|with_reducible refine aN ?_ _|with_reducible refine aK ?_|with_reducible refine aM ?_ _|refine bM (cs:= #[.int .u16 0,.int .u16 0,.int .u16 0,.slice none 0 0]) ?_ _ _ rfl));(with_reducible repeat (first|refine aN ?_ _|refine aK ?_|refine aM ?_ _));exact fS.out) Try.underlying83 rfl (by kernel_rfl)) rfl ?_;exact ⟨_,by first|rfl|(simp [aj,ak]<;>rfl)|(simp [*,aj,ak]<;>rfl),by first|exact Kd.cl _ _ _ _ _|exact Kd.ju _ _ _ _ _|exact Kd.jv _ _ _ _ _|exact Kd.jr _ _ _ _ _|exact Kd.js _ _ _ _ _,bz HB⟩
   ·rw [ax c9] at H
    have wT:decide ((l0.length:Int)<(wrap64 (vX)))=false:=gO c9;clear c9;replace H:=cZ H;obtain ⟨Ez,zn,H⟩:=H
    (try dsimp -simprocs only at H)
    have TY:=aa.mk zn;clear zn;replace H:=cZ H;obtain ⟨G6,CH,H⟩:=H
    (try dsimp -simprocs only at H)
    have O5:=aa.mk CH;clear CH;replace H:=cZ H;obtain ⟨JW,CC,H⟩:=H
    (try dsimp -simprocs only at H)
    have Y5:=aa.mk CC;clear CC;replace H:=cZ H;obtain ⟨LQ,Dp,H⟩:=H
    (try dsimp -simprocs only at H)
    have A15:=aa.mk Dp;clear Dp;simp only [Option.some.injEq,Prod.mk.injEq] at H
    obtain ⟨rfl,rfl,rfl,rfl,rfl⟩:=H
    go_enter Try.func39,Try.ntmps39
    go_wp2_with (first|((with_reducible refine aA (N:=2) rfl ?_);refine aC ?hg (N:=2) ?hd (cs:= #[.int .u16 0,.int .u16 0,.int .u16 0,.slice none 0 0]) (t:=83) ?hr ?_;(case hd=>rfl);(case hg=>rfl);(case hr=>first|(go_simp;done)|(go_simp;rfl));intro i9 hg qM bK hb;have aJ:=aa.mk (aq (bz HB) hb);have aQ:=aa.mk (bK);have bt:=aa.mk ((by rw [hg];exact (af (bz HB)):w.heap.size<=i9));have cr:=aa.mk ((by rw [hg];exact (af (bz HB)):w.heap.size<=i9));clear HB;have HB:=aJ;have fS:=aQ;have SK:=bt;have SL:=cr;clear aJ aQ bt cr;clear hb bK hg)|((with_reducible refine ay (f:=64) rfl ?_);refine gL 10 Try.func64 #[.slice A0 l0.length c0,.int .i64 4] ?_;(with_reducible refine (aX.calls _ _ l0 4 vX _ ?aG ?aH A5.out).mono ?_);(case aG=>exact Kd.aU gh.out (bz HB));(case aH=>exact jC.out);rintro e w' ⟨rfl,⟨nd,rfl⟩⟩;refine ⟨_,rfl, ?_⟩;(try (rw [fg qM];generalize j5:World.drewN qM _=qM;have aJ:aa (qM.heap[i9]?=some (.cells #[.int .u16 0,.int .u16 0,.int .u16 0,.slice none 0 0] 83 (0,0))):=⟨by rw [<- j5];exact (kz fS)⟩;have aQ:aa (Below w.heap.size w qM):=⟨by rw [<- j5];exact bz HB⟩;clear fS HB j5;have fS:=aJ;have HB:=aQ;clear aJ aQ)))|((with_reducible refine ay (f:=64) rfl ?_);refine gL 21 Try.func64 #[.slice A0 l0.length c0,.int .i64 0] ?_;(with_reducible refine (aX.calls _ _ l0 0 Ez _ ?aG ?aH TY.out).mono ?_);(case aG=>exact Kd.aU gh.out (bz HB));(case aH=>exact jC.out);rintro e w' ⟨rfl,⟨nd,rfl⟩⟩;refine ⟨_,rfl, ?_⟩;(try (rw [fg qM];generalize j5:World.drewN qM _=qM;have aJ:aa (qM.heap[i9]?=some (.cells #[.int .u16 0,.int .u16 0,.int .u16 0,.slice none 0 0] 83 (0,0))):=⟨by rw [<- j5];exact (kz fS)⟩;have aQ:aa (Below w.heap.size w qM):=⟨by rw [<- j5];exact bz HB⟩;clear fS HB j5;have fS:=aJ;have HB:=aQ;clear aJ aQ)))|((with_reducible refine ay (f:=64) rfl ?_);refine gL 23 Try.func64 #[.slice A0 l0.length c0,.int .i64 2] ?_;(with_reducible refine (aX.calls _ _ l0 2 G6 _ ?aG ?aH O5.out).mono ?_);(case aG=>exact Kd.aU gh.out (bz HB));(case aH=>exact jC.out);rintro e w' ⟨rfl,⟨nd,rfl⟩⟩;refine ⟨_,rfl, ?_⟩;(try (rw [fg qM];generalize j5:World.drewN qM _=qM;have aJ:aa (qM.heap[i9]?=some (.cells #[.int .u16 0,.int .u16 0,.int .u16 0,.slice none 0 0] 83 (0,0))):=⟨by rw [<- j5];exact (kz fS)⟩;have aQ:aa (Below w.heap.size w qM):=⟨by rw [<- j5];exact bz HB⟩;clear fS HB j5;have fS:=aJ;have HB:=aQ;clear aJ aQ)))|((with_reducible refine ay (f:=64) rfl ?_);refine gL 25 Try.func64 #[.slice A0 l0.length c0,.int .i64 6] ?_;(with_reducible refine (aX.calls _ _ l0 6 JW _ ?aG ?aH Y5.out).mono ?_);(case aG=>exact Kd.aU gh.out (bz HB));(case aH=>exact jC.out);rintro e w' ⟨rfl,⟨nd,rfl⟩⟩;refine ⟨_,rfl, ?_⟩;(try (rw [fg qM];generalize j5:World.drewN qM _=qM;have aJ:aa (qM.heap[i9]?=some (.cells #[.int .u16 0,.int .u16 0,.int .u16 0,.slice none 0 0] 83 (0,0))):=⟨by rw [<- j5];exact (kz fS)⟩;have aQ:aa (Below w.heap.size w qM):=⟨by rw [<- j5];exact bz HB⟩;clear fS HB j5;have fS:=aJ;have HB:=aQ;clear aJ aQ)))|((with_reducible refine ay (f:=65) rfl ?_);refine gL 28 Try.func65 #[.slice A0 l0.length c0,.int .i64 8,.int .i64 (wrap64 (vX))] ?_;(with_reducible refine (ew.calls _ _ l0 8 (wrap64 (vX)) LQ _ ?aG ?aH A15.out).mono ?_);(case aG=>exact Kd.aU gh.out (bz HB));(case aH=>exact jC.out);rintro e Bm ⟨Avh,rfl,gE,hb⟩;refine ⟨_,rfl, ?_⟩;have aJ:=aa.mk (Kd.bP gE (af (bz HB)));have aQ:=aa.mk (bn (kz fS) hb);have bt:=aa.mk (aq (bz HB) hb);clear fS;clear HB;have Yc:=aJ;have fS:=aQ;have HB:=bt;clear aJ aQ bt;(try clear hb);(try clear hb2);(try clear hk);(try clear hi);(try clear gE);obtain ⟨U2,U3,Abh⟩:=Kd.da Yc.out;subst Abh;have Aj1:Bm.cell? ⟨i9,0,none⟩=some (.int .u16 0):=cz fS.out 0 rfl;have Aj2:Bm.cell? ⟨i9,1,none⟩=some (.int .u16 0):=cz fS.out 1 rfl;have Aj3:Bm.cell? ⟨i9,2,none⟩=some (.int .u16 0):=cz fS.out 2 rfl;have Aj4:Bm.cell? ⟨i9,3,none⟩=some (.slice none 0 0):=cz fS.out 3 rfl;have Aj5:=ae fS.out 0;have Aj6:=ae fS.out 1;have Aj7:=ae fS.out 2;have Aj8:=ae fS.out 3))
    refine bodyPost_ret (fC rfl _ _ i9 83 #[.int .u16 Ez,.int .u16 G6,.int .u16 JW,.slice U2 LQ.length U3] (0,0) _ rfl (by (with_reducible repeat (first|refine aN ?_ _|refine aK ?_|refine aM ?_ _));refine bM (cs:= #[.int .u16 Ez,.int .u16 G6,.int .u16 JW,.slice none 0 0]) ?_ 3 _ rfl;(with_reducible repeat (first|refine aN ?_ _|refine aK ?_|refine aM ?_ _));refine bM (cs:= #[.int .u16 Ez,.int .u16 G6,.int .u16 0,.slice none 0 0]) ?_ 2 _ rfl;(with_reducible repeat (first|refine aN ?_ _|refine aK ?_|refine aM ?_ _));refine bM (cs:= #[.int .u16 Ez,.int .u16 0,.int .u16 0,.slice none 0 0]) ?_ 1 _ rfl;(with_reducible repeat (first|refine aN ?_ _|refine aK ?_|refine aM ?_ _));refine bM (cs:= #[.int .u16 0,.int .u16 0,.int .u16 0,.slice none 0 0]) ?_ 0 _ rfl;(with_reducible repeat (first|refine aN ?_ _|refine aK ?_|refine aM ?_ _));exact fS.out) Try.underlying83 rfl (by kernel_rfl)) rfl ?_
    exact ⟨_,by first|rfl|(simp [aj,ak]<;>rfl)|(simp [*,aj,ak]<;>rfl),by (with_reducible repeat (first|apply Kd.eX|apply Kd.eT|apply Kd.eY));exact Kd.dm (Kd.eF (p:=⟨i9,3,none⟩) (Kd.eF (p:=⟨i9,2,none⟩) (Kd.eF (p:=⟨i9,1,none⟩) (Kd.eF (p:=⟨i9,0,none⟩) (Kd.mL Yc.out fS.out (by decide)) (fun _ hk=>hk.2) (.int .u16 Ez)) (fun _ hk=>hk.2) (.int .u16 G6)) (fun _ hk=>hk.2) (.int .u16 JW)) (fun _ hk=>hk.2) (.slice U2 LQ.length U3)) (fun _ hk=>trivial),bz HB⟩
end Go.Proofs.Ytkmimamminddiaa.PB
namespace Go.Proofs.Ytkmimamminddiaa.Pure
open Go.RowKit Go.Proofs.Ytkmimamminddiaa.PB Go.Proofs.ai.bX Go.Proofs.ai.dh
open Go.Proofs.Ytkmimamminddiaa.Spec Go.Proofs.Ytkmimamminddiaa.j8
theorem Ck {l:List Int} (h:gU l) (a b:Nat) (hab:b=a+2) (hb:b<=l.length):kV.f ((l.take b).drop a)=some (jQ l a):=by
 subst hab;unfold kV.f;have hlen:((l.take (a+2)).drop a).length=2:=by rw [List.length_drop,List.length_take];omega
 rw [hlen,au (by omega),au (by omega),G4 l a (a+2) 0 0 rfl (by omega),G4 l a (a+2) 1 1 rfl (by omega),DG (h.getD (a+0)) (h.getD (a+1))]
 rfl
def udg (l:List Int):Int×Int×Int×List Int×Int:=
 if l.length<8 then (0,0,0,[],20) else if jQ l 4<8 then (0,0,0,[],21) else if (l.length:Int)<jQ l 4 then (0,0,0,[],20) else (jQ l 0,jQ l 2,jQ l 6,(l.take (jQ l 4).toNat).drop 8,0)
theorem Fo {l:List Int} (h:gU l) (hl:l.length<=1000000000):jj.f l=some (udg l):=by
 unfold jj.f udg
 by_cases h8:l.length<8
 ·rw [au (by omega),au h8]
 ·have hg:=fP h 4
  rw [ax (by omega),ax h8,au (by omega),Ck h 4 6 rfl (by omega)];simp only [bA];rw [cj (n:=jQ l 4) (by omega) (by omega)]
  by_cases c1:jQ l 4<8
  ·rw [au c1,au c1]
  ·rw [ax c1,ax c1]
   by_cases c2:(l.length:Int)<jQ l 4
   ·rw [au c2,au c2]
   ·rw [ax c2,ax c2,au (by omega),Ck h 0 2 rfl (by omega)]
    simp only [bA];rw [au (by omega),Ck h 2 4 rfl (by omega)];simp only [bA];rw [au (by omega),Ck h 6 8 rfl (by omega)];simp only [bA];rw [au (by omega),au (by omega),zW _ (by rw [List.length_drop,List.length_take];omega)];simp only [bA]
theorem DP {l:List Int} (h:gU l) (hl:l.length<=1000000000):lY.f l=some (udg l):=by
 unfold lY.f udg
 by_cases h8:l.length<8
 ·rw [au (by omega),au h8]
 ·have hg:=fP h 4
  have e0:=iC h 0 (by omega) hl;have e2:=iC h 2 (by omega) hl;have e4:=iC h 4 (by omega) hl;have e6:=iC h 6 (by omega) hl;rw [show ((0:Nat):Int)=0 from rfl] at e0
  rw [show ((2:Nat):Int)=2 from rfl] at e2
  rw [show ((4:Nat):Int)=4 from rfl] at e4
  rw [show ((6:Nat):Int)=6 from rfl] at e6
  rw [ax (by omega),ax h8,e4];simp only [bA];rw [cj (n:=jQ l 4) (by omega) (by omega)]
  by_cases c1:jQ l 4<8
  ·rw [au c1,au c1]
  ·rw [ax c1,ax c1]
   by_cases c2:(l.length:Int)<jQ l 4
   ·rw [au c2,au c2]
   ·have e8:=AL l 8 (jQ l 4).toNat (by omega) (by omega) hl
    rw [show ((8:Nat):Int)=8 from rfl,Int.toNat_of_nonneg hg.1] at e8
    rw [ax c2,ax c2,e0,e2,e6,e8];simp only [bA]
def l8 (s d c:Int) (l:List Int):List Int:=[s / 256 % 256,s % 256,d / 256 % 256,d % 256,(8+(l.length:Int)) / 256 % 256,(8+(l.length:Int)) % 256,c / 256 % 256,c % 256]++l
theorem AO (s d c:Int) {l:List Int} (hl:l.length<=1000000000):mw.f s d c l=if (l.length:Int)>65527 then some ([],23) else some (l8 s d c l,0):=by
 unfold mw.f l8;rw [cj (by omega) (by omega)]
 by_cases h:(l.length:Int)>65527
 ·rw [au (by omega),au h]
 ·rw [ax (by omega),ax h]
  simp only [bA,List.length_cons,List.length_nil];rw [au (by omega)]
theorem qG (s d c:Int) {l:List Int} (hl:l.length<=1000000000):bT.f s d c l=if (l.length:Int)>65527 then some ([],23) else some (l8 s d c l,0):=by
 unfold bT.f bq.f l8
 by_cases h:(l.length:Int)>65527
 ·rw [au h,au h]
 ·rw [ax h,ax h,cj (n:=8+(l.length:Int)) (by omega) (by omega),yN (n:=8+(l.length:Int)) (by omega) (by omega)]
  simp only [bA,List.length_cons,List.length_nil,List.cons_append,List.nil_append];rw [au (by omega)];simp only [bA,List.length_cons,List.length_nil,List.cons_append,List.nil_append];rw [au (by omega)];simp only [bA,List.length_cons,List.length_nil,List.cons_append,List.nil_append];rw [au (by omega)];simp only [bA,List.length_cons,List.length_nil,List.cons_append,List.nil_append];rw [au (by omega)];simp only [bA,List.length_cons,List.length_nil,List.cons_append,List.nil_append];rw [au (by omega)]
theorem vY {s d c:Int} {l:List Int} (h:gU l):gU (l8 s d c l):=
 gU.append (.cons (by omega) (.cons (by omega) (.cons (by omega) (.cons (by omega) (.cons (by omega) (.cons (by omega) (.cons (by omega) (.cons (by omega) .nil)))))))) h
theorem oW (s d c:Int) (l:List Int):(l8 s d c l).length=8+l.length:=by simp [l8];omega
theorem vZ {s d c:Int} {l:List Int} (hs:0<=s /\ s<=65535) (hd:0<=d /\ d<=65535) (hc:0<=c /\ c<=65535) (hl:(l.length:Int)<=65527):oT (words (l8 s d c l))=s+d+(8+(l.length:Int))+c+oT (words l):=by
 unfold l8;simp only [List.cons_append,List.nil_append,words,oT]
 omega
def pK (a b s d:Int) (l:List Int):Int:=norm (a / 65536+a % 65536+b / 65536+b % 65536+17+(8+(l.length:Int)) % 65536)+s+d+(8+(l.length:Int))+oT (words l)
theorem xO {a b s d:Int} {l:List Int} (ha:0<=a) (hb:0<=b) (hs:0<=s) (hd:0<=d) (h:gU l):0<pK a b s d l:=by
 have h1:=iW (a / 65536+a % 65536+b / 65536+b % 65536+17+(8+(l.length:Int)) % 65536) (by omega);have h2:=nO _ (fO l h);unfold pK;omega
theorem SM {a b s d c:Int} {l:List Int} (ha:0<=a /\ a<=4294967295) (hb:0<=b /\ b<=4294967295) (hs:0<=s /\ s<=65535) (hd:0<=d /\ d<=65535) (hc:0<=c /\ c<=65535) (h:gU l) (hl:(l.length:Int)<=3000) (K:Nat) (hK:4000<=K):
  kM.f K a b s d c l=some (norm (pK a b s d l+c),true):=by
 have hB:=vY (s:=s) (d:=d) (c:=c) h;have hL:=oW s d c l;have hp:=iW (a / 65536+a % 65536+b / 65536+b % 65536+17+(8+(l.length:Int)) % 65536) (by omega);unfold kM.f;rw [AO _ _ _ (by omega),ax (by omega)];simp only [bA];rw [show ((l8 s d c l).length:Int)=8+(l.length:Int) from by omega,oo.Fk a b 17 _ ha hb (by omega) K (by omega)];simp only [bA];have hr:=l6 (words (l8 s d c l)) _ hp.1 (by omega) (fO _ hB);have hn:=nZ (words (l8 s d c l)) _ hp.1 (by omega) (fO _ hB);rw [oo.add_eq _ _ hB (by omega) hp.1 (by omega) K (by omega)];simp only [bA];rw [oo.fold_eq _ hr.1 hr.2 K (by omega),hn,vZ hs hd hc (by omega)];simp only [bA,beq_self_eq_true];unfold pK
 congr 3
 omega
def BI (S:Int):Int:=if norm S=65535 then 65535 else 65535 - norm S
theorem JX {S o:Int} (h:0<S) (ho:1<=o /\ o<=65535):norm (S+o)=65535↔o=BI S:=by
 have e1:norm S=(S - 1) % 65535+1:=by unfold norm;rw [ax (by omega)]
 have e2:norm (S+o)=(S+o - 1) % 65535+1:=by unfold norm;rw [ax (by omega)]
 unfold BI;rw [e1,e2]
 split<;>omega
theorem VT {a b s d c:Int} {l:List Int} (ha:0<=a /\ a<=4294967295) (hb:0<=b /\ b<=4294967295) (hs:0<=s /\ s<=65535) (hd:0<=d /\ d<=65535) (h:gU l) (hl:(l.length:Int)<=3000) (K:Nat) (hK:4000<=K):
  xI.f K a b s d c l=some (BI (pK a b s d l)):=by
 have hS:=xO (s:=s) (d:=d) ha.1 hb.1 hs.1 hd.1 h;have hn:=iW (pK a b s d l) (by omega);unfold xI.f;rw [SM ha hb hs hd (c:=0) (by omega) h hl K hK,Int.add_zero];simp only [bA,if_true];unfold BI
 by_cases c1:norm (pK a b s d l)=65535
 ·rw [au c1,au c1,c1]
 ·rw [ax c1,ax c1,show (IntKind.u16.max:Int)=65535 from rfl,xK hn.1 hn.2]
theorem JY {a b s d c:Int} {l:List Int} (ha:0<=a /\ a<=4294967295) (hb:0<=b /\ b<=4294967295) (hs:0<=s /\ s<=65535) (hd:0<=d /\ d<=65535) (h:gU l) (hl:(l.length:Int)<=3000) (K:Nat) (hK:4000<=K):
  jn.f K a b s d c l=some (BI (pK a b s d l)):=by
 have hS:=xO (s:=s) (d:=d) ha.1 hb.1 hs.1 hd.1 h;have hnn:=iW (pK a b s d l) (by omega);have hB:=vY (s:=s) (d:=d) (c:=0) h;have hL:=oW s d 0 l;have hp:=iW (a / 65536+a % 65536+b / 65536+b % 65536+17+(8+(l.length:Int)) % 65536) (by omega);have hr:=l6 (words (l8 s d 0 l)) _ hp.1 (by omega) (fO _ hB);have hn:=nZ (words (l8 s d 0 l)) _ hp.1 (by omega) (fO _ hB);unfold jn.f;rw [qG _ _ _ (by omega),ax (by omega)];simp only [bA,if_true];rw [show ((l8 s d 0 l).length:Int)=8+(l.length:Int) from by omega,oo.yR a b 17 _ ha hb (by omega) K (by omega)];simp only [bA];rw [oo.xL _ _ hB (by omega) hp.1 (by omega) K (by omega)];simp only [bA]
 have e:norm (a / 65536+a % 65536+b / 65536+b % 65536+17+(8+(l.length:Int)) % 65536)+(s+d+(8+(l.length:Int))+0+oT (words l))=pK a b s d l:=by unfold pK;omega
 rw [oo.sN _ hr.1 hr.2 K (by omega),hn,vZ hs hd (by omega) (by omega),e];simp only [bA];rw [show (IntKind.u16.max:Int)=65535 from rfl,xK hnn.1 hnn.2];unfold BI
 by_cases c1:norm (pK a b s d l)=65535
 ·rw [au (by omega),au c1]
 ·rw [ax (by omega),ax c1]
theorem OP {a b s d c:Int} {l:List Int} (ha:0<=a /\ a<=4294967295) (hb:0<=b /\ b<=4294967295) (hs:0<=s /\ s<=65535) (hd:0<=d /\ d<=65535) (hc:0<=c /\ c<=65535) (h:gU l) (hl:(l.length:Int)<=3000) (K:Nat) (hK:4000<=K):
  o8.f K a b s d c l=some (decide (c=0 \/ c=BI (pK a b s d l))):=by
 have hS:=xO (s:=s) (d:=d) ha.1 hb.1 hs.1 hd.1 h;unfold o8.f
 by_cases c0:c=0
 ·rw [au c0];simp [c0]
 ·rw [ax c0,SM ha hb hs hd hc h hl K hK]
  simp only [bA,if_true];have:=JX hS (o:=c) (by omega)
  congr 1
  rw [Bool.eq_iff_iff,beq_iff_eq,decide_eq_true_eq,this];exact ⟨fun h=> .inr h,fun h=>h.resolve_left c0⟩
theorem LR {a b s d c:Int} {l:List Int} (ha:0<=a /\ a<=4294967295) (hb:0<=b /\ b<=4294967295) (hs:0<=s /\ s<=65535) (hd:0<=d /\ d<=65535) (hc:0<=c /\ c<=65535) (h:gU l) (hl:(l.length:Int)<=3000) (K:Nat) (hK:4000<=K):
  ke.f K a b s d c l=some (decide (c=0 \/ c=BI (pK a b s d l))):=by
 have hS:=xO (s:=s) (d:=d) ha.1 hb.1 hs.1 hd.1 h;unfold ke.f
 by_cases c0:c=0
 ·rw [au c0];simp [c0]
 ·have hB:=vY (s:=s) (d:=d) (c:=c) h
  have hL:=oW s d c l;have hp:=iW (a / 65536+a % 65536+b / 65536+b % 65536+17+(8+(l.length:Int)) % 65536) (by omega);have hr:=l6 (words (l8 s d c l)) _ hp.1 (by omega) (fO _ hB);have hn:=nZ (words (l8 s d c l)) _ hp.1 (by omega) (fO _ hB);rw [ax c0,qG _ _ _ (by omega),ax (by omega)];simp only [bA,if_true];rw [show ((l8 s d c l).length:Int)=8+(l.length:Int) from by omega,oo.yR a b 17 _ ha hb (by omega) K (by omega)];simp only [bA];rw [oo.xL _ _ hB (by omega) hp.1 (by omega) K (by omega)];simp only [bA];have e:norm (a / 65536+a % 65536+b / 65536+b % 65536+17+(8+(l.length:Int)) % 65536)+(s+d+(8+(l.length:Int))+c+oT (words l))=pK a b s d l+c:=by unfold pK;omega
  rw [oo.sN _ hr.1 hr.2 K (by omega),hn,vZ hs hd hc (by omega),e];simp only [bA];have:=JX hS (o:=c) (by omega)
  congr 1
  rw [Bool.eq_iff_iff,beq_iff_eq,decide_eq_true_eq,this];exact ⟨fun h=> .inr h,fun h=>h.resolve_left c0⟩
end Go.Proofs.Ytkmimamminddiaa.Pure
namespace Go.Proofs.Ytkmimamminddiaa.iD
open Go.RowKit Go.Proofs.Ytkmimamminddiaa.PB Go.Proofs.ai.bX Go.Proofs.ai.dh
open Go.Proofs.Ytkmimamminddiaa.Spec Go.Proofs.Ytkmimamminddiaa.j8
theorem VU {a b c d:Int} (ha:0<=a /\ a<=255) (hb:0<=b /\ b<=255) (hc:0<=c /\ c<=255) (hd:0<=d /\ d<=255):
  Go.bits .or .u32 (Go.bits .or .u32 (Go.bits .or .u32 (((a % 4294967296)*16777216) % 4294967296) (((b % 4294967296)*65536) % 4294967296)) (((c % 4294967296)*256) % 4294967296)) (d % 4294967296)=a*16777216+b*65536+c*256+d:=by
 rw [show a % 4294967296=a from by omega,show a*16777216 % 4294967296=a*16777216 from by omega,show b % 4294967296=b from by omega,show b*65536 % 4294967296=b*65536 from by omega,show c % 4294967296=c from by omega,show c*256 % 4294967296=c*256 from by omega,show d % 4294967296=d from by omega];rw [AK 24 (x:=a*16777216) (y:=b*65536) (by omega) (by omega) (by omega) (by omega) (by omega) (by omega)];rw [AK 16 (x:=a*16777216+b*65536) (y:=c*256) (by omega) (by omega) (by omega) (by omega) (by omega) (by omega)];rw [AK 8 (x:=a*16777216+b*65536+c*256) (y:=d) (by omega) (by omega) (by omega) (by omega) (by omega) (by omega)]
def LS (l:List Int):Int×Int×Int×Int×List Int×Int:=if l.length<8 then (0,0,0,0,[],20) else (l.getD 0 0,l.getD 1 0,jQ l 2,sy l 4,l.drop 8,0)
theorem uH {l:List Int} (h:gU l) (hl:l.length<=1000000000):iE.f l=some (LS l):=by
 unfold iE.f LS
 by_cases h8:l.length<8
 ·rw [au (by omega),au h8]
 ·rw [ax (by omega),ax h8,au (by omega),au (by omega),au (by omega),au (by omega),au (by omega),au (by omega),au (by omega),au (by omega),au (by omega),zW _ (by rw [List.length_drop];omega)]
  simp only [bA];rw [ia l 0 0 rfl,ia l 1 1 rfl,ia l 2 2 rfl,ia l 3 3 rfl,ia l 4 4 rfl,ia l 5 5 rfl,ia l 6 6 rfl,ia l 7 7 rfl,DG (h.getD 2) (h.getD 3),VU (h.getD 4) (h.getD 5) (h.getD 6) (h.getD 7)];have e:sy l 4=(l.getD 4 0*256+l.getD 5 0)*65536+(l.getD 6 0*256+l.getD 7 0):=rfl;rw [e,show (l.getD 4 0*256+l.getD 5 0)*65536+(l.getD 6 0*256+l.getD 7 0)=l.getD 4 0*16777216+l.getD 5 0*65536+l.getD 6 0*256+l.getD 7 0 from by omega]
  rfl
theorem qH {l:List Int} (h:gU l) (hl:l.length<=1000000000):eS.f l=some (LS l):=by
 unfold eS.f LS
 by_cases h8:l.length<8
 ·rw [au (by omega),au h8]
 ·have e2:=iC h 2 (by omega) hl
  have e4:=q8 h 4 (by omega) hl;have e8:=AL l 8 l.length (by omega) (by omega) hl;rw [show ((2:Nat):Int)=2 from rfl] at e2
  rw [show ((4:Nat):Int)=4 from rfl] at e4
  rw [show ((8:Nat):Int)=8 from rfl] at e8
  rw [ax (by omega),ax h8,au (by omega),au (by omega),e2,e4,e8];simp only [bA,List.take_length];rw [ia l 0 0 rfl,ia l 1 1 rfl]
theorem VV (a b c d c' d':Int) (l l':List Int):∃ x,kL.f a b c d l=some x /\ ng.f a b c' d' l'=some x:=by
 unfold kL.f lF.f ng.f
 by_cases h0:a=0
 ·subst h0;exact ⟨b==0,by simp,by simp⟩
 ·by_cases h8:a=8
  ·subst h8;exact ⟨b==0,by simp,by simp⟩
  ·refine ⟨false, ?_,by simp [h0,h8]⟩
   simp only [ax h0,ax h8]
   split<;>(try split)<;>(try split)<;>simp
theorem SN (a b c d b' c' d':Int) (l l':List Int):∃ x,qE.f a b c d l=some x /\ mF.f a b' c' d' l'=some x:=by
 unfold qE.f lF.f mF.f
 by_cases h3:a=3
 ·subst h3;exact ⟨true,by simp,by simp⟩
 ·by_cases SP:a=11
  ·subst SP;exact ⟨true,by simp,by simp⟩
  ·by_cases FL:a=12
   ·subst FL;exact ⟨true,by simp,by simp⟩
   ·refine ⟨false, ?_,by simp [h3,SP,FL]⟩
    simp only [ax h3,ax SP,ax FL]
    split<;>(try split)<;>simp
def f5 (t c s r:Int) (l:List Int):List Int:=[t,c,s / 256 % 256,s % 256,r / 16777216 % 256,r / 65536 % 256,r / 256 % 256,r % 256]++l
theorem qI (t c s r:Int) {l:List Int} (hl:l.length<=1000000000):iF.f t c s r l=if (l.length:Int)>65507 then some ([],23) else some (f5 t c s r l,0):=by
 unfold iF.f f5;rw [cj (by omega) (by omega)]
 by_cases h:(l.length:Int)>65507
 ·rw [au (by omega),au h]
 ·rw [ax (by omega),ax h]
  simp only [bA,List.length_cons,List.length_nil];rw [au (by omega)]
theorem l9 (t c s r:Int) {l:List Int} (hl:l.length<=1000000000):bG.f t c s r l=if (l.length:Int)>65507 then some ([],23) else some (f5 t c s r l,0):=by
 unfold bG.f bq.f dK.f f5
 by_cases h:(l.length:Int)>65507
 ·rw [au h,au h]
 ·rw [ax h,ax h]
  simp only [bA,List.length_cons,List.length_nil,List.cons_append,List.nil_append];rw [au (by omega)];simp only [bA,List.length_cons,List.length_nil,List.cons_append,List.nil_append];rw [au (by omega)];simp only [bA,List.length_cons,List.length_nil,List.cons_append,List.nil_append];rw [au (by omega)]
theorem kQ {t c s r:Int} {l:List Int} (ht:0<=t /\ t<=255) (hc:0<=c /\ c<=255) (h:gU l):gU (f5 t c s r l):=
 gU.append (.cons ht (.cons hc (.cons (by omega) (.cons (by omega) (.cons (by omega) (.cons (by omega) (.cons (by omega) (.cons (by omega) .nil)))))))) h
theorem iP (t c s r:Int) (l:List Int):(f5 t c s r l).length=8+l.length:=by simp [f5];omega
theorem JZ {l:List Int} (h:gU l):(ck l==0)=(norm (oT (words l))==65535):=by
 have:=iW _ (nO _ (fO l h));unfold ck;rw [Bool.eq_iff_iff,beq_iff_eq,beq_iff_eq];omega
theorem OQ {t c s r:Int} {l:List Int} (ht:0<=t /\ t<=255) (hc:0<=c /\ c<=255) (h:gU l) (hl:(l.length:Int)<=3000) (K:Nat) (hK:4000<=K):
  nG.f K t c s r l=some (norm (oT (words (f5 t c s r l)))==65535) /\ jF.f K t c s r l=some (norm (oT (words (f5 t c s r l)))==65535):=by
 have hB:=kQ (s:=s) (r:=r) ht hc h;have hL:=iP t c s r l;have hr:=l6 (words (f5 t c s r l)) 0 (by omega) (by omega) (fO _ hB);have hn:=nZ (words (f5 t c s r l)) 0 (by omega) (by omega) (fO _ hB)
 constructor
 ·unfold nG.f
  rw [qI _ _ _ _ (by omega),ax (by omega)];simp only [bA,if_true];rw [oo.of_eq _ hB (by omega) K (by omega) (by omega)];simp only [bA];rw [JZ hB]
 ·unfold jF.f
  rw [l9 _ _ _ _ (by omega),ax (by omega)];simp only [bA,if_true];rw [oo.xL 0 _ hB (by omega) (by omega) (by omega) K (by omega)];simp only [bA];rw [oo.sN _ hr.1 hr.2 K (by omega),hn,Int.zero_add];simp only [bA]
theorem J0 (t c s r:Int) (l:List Int) (K:Nat) (hK:4000<=K) (hl:(l.length:Int)<=3000) (hB:gU (f5 t c 0 r l)):qY.f K t c s r l=some (ck (f5 t c 0 r l)):=by
 have hL:=iP t c 0 r l;unfold qY.f;rw [qI _ _ _ _ (by omega),ax (by omega)];simp only [bA,if_true];rw [oo.of_eq _ hB (by omega) _ (by omega) (by omega)];simp only [bA]
theorem AP (t c s r:Int) (l:List Int) (K:Nat) (hK:4000<=K) (hl:(l.length:Int)<=3000) (hB:gU (f5 t c 0 r l)):eW.f K t c s r l=some (ck (f5 t c 0 r l)):=by
 have hL:=iP t c 0 r l;unfold eW.f;rw [l9 _ _ _ _ (by omega),ax (by omega)];simp only [bA,if_true];rw [oo.SF _ hB (by omega) _ (by omega) (by omega)];simp only [bA]
end Go.Proofs.Ytkmimamminddiaa.iD
namespace Go.Proofs.Ytkmimamminddiaa.PB
open Go.RowKit Go.Proofs.ai.bX Go.Proofs.ai.dh Go.Proofs.ai.iL
attribute [local go_sem] dF dG eG eH cQ cR dH dI
mutual
def bB.j0:Nat ->List Int ->Int ->Int ->Bool ->Option (Int×Int×Int×Int×Int×Int×Int×Int×List Int×List Int×Int)
 |0,_,_,_,_=>none
 |k+1,x0,x4,x5,x33=>if x33=true then (some (0,0,0,0,0,0,0,0,([]:List Int),([]:List Int),21)) else (if (x0.length:Int)<x4 then (bB.j1 k x0 x4 x5 true) else (bB.j1 k x0 x4 x5 (decide ((x0.length:Int)<x5))))
def bB.j1:Nat ->List Int ->Int ->Int ->Bool ->Option (Int×Int×Int×Int×Int×Int×Int×Int×List Int×List Int×Int)
 |0,_,_,_,_=>none
 |k+1,x0,x4,x5,x44=>if x44=true then (some (0,0,0,0,0,0,0,0,([]:List Int),([]:List Int),20)) else (if 0<=x4 then (if x4<=(x0.length:Int) then ((bZ.f k 0 (x0.take (x4:Int).toNat)).bind fun BJ=>((bO.f k BJ).bind fun AQ=>(if AQ=65535 then ((aX.f x0 6).bind fun rJ=>(if 1<(x0.length:Int) then ((aX.f x0 4).bind fun ym=>(if 8<(x0.length:Int) then (if 9<(x0.length:Int) then ((dL.f x0 12).bind fun AR=>((dL.f x0 16).bind fun BK=>((ew.f x0 20 x4).bind fun DQ=>((ew.f x0 x4 x5).bind fun EA=>(some (rd x0 1,rd x0 8,rd x0 9,ym,(rJ / 8192) % 256,Go.bits .and .u16 rJ 8191,AR,BK,DQ,EA,0)))))) else (none)) else (none))) else (none))) else (some (0,0,0,0,0,0,0,0,([]:List Int),([]:List Int),22))))) else (none)) else (none))
end
def bB.f (k:Nat) (l0:List Int):Option (Int×Int×Int×Int×Int×Int×Int×Int×List Int×List Int×Int):=if (l0.length:Int)<20 then (some (0,0,0,0,0,0,0,0,([]:List Int),([]:List Int),20)) else (if 0<(l0.length:Int) then ((aX.f l0 2).bind fun sU=>(if ((rd l0 0) / 16)=4 then (if (wrap64 ((wrap64 (Go.bits .and .u8 (rd l0 0) 15))*4))<20 then (bB.j0 k l0 (wrap64 ((wrap64 (Go.bits .and .u8 (rd l0 0) 15))*4)) (wrap64 (sU)) true) else (bB.j0 k l0 (wrap64 ((wrap64 (Go.bits .and .u8 (rd l0 0) 15))*4)) (wrap64 (sU)) (decide ((wrap64 (sU))<(wrap64 ((wrap64 (Go.bits .and .u8 (rd l0 0) 15))*4)))))) else (bB.j0 k l0 (wrap64 ((wrap64 (Go.bits .and .u8 (rd l0 0) 15))*4)) (wrap64 (sU)) true))) else (none))
def bB.T3:Bool×List (List Nat×List Nat):=(true,[([],[]),([0],[0]),([1],[1]),([2],[2]),([3],[3]),([4],[4]),([],[]),([6],[6]),([7],[7]),([5,7,0,1,2,3,4,5],[5]),([8,9,0,1,2,3,4,5,6,7,8,9],[8])])
def bB.B3:List Nat:=[0,1,3,7,15,31,0,64,192,255,1023]
theorem bB.KD:gS .any (opsOf Try.f38 3)=bB.T3:=by kernel_rfl
theorem bB.CA:dN bB.T3.2 bB.B3=true:=by kernel_rfl
def bB.T11:Bool×List (List Nat×List Nat):=(true,[([],[]),([0],[0]),([1],[1]),([],[]),([3],[3]),([],[]),([5],[5]),([6],[6]),([],[]),([8],[8]),([],[]),([10],[10]),([11],[11]),([],[]),([13],[13]),([14],[14]),([],[]),([16,4],[16]),([],[]),([18,17],[18]),([],[]),([],[]),([20,21,19],[20,21]),([],[]),([],[]),([],[]),([23,24,25,22],[23,24,25]),([2,4,7,9,12,15,17,19,22,26],[2,4,7,9,12,15,17,19,22,26]),([27,26,0,1,2,3,4,5,6,7,8,9,10,11,12,13,14,15,16,17,18,19,20,21,22,23,24,25,26,27],[27]),([28,0,1,2,3,4,5,6,7,8,9,10,11,12,13,14,15,16,17,18,19,20,21,22,23,24,25,26,27,28],[])])
def bB.B11:List Nat:=[0,1,3,0,8,0,32,96,0,256,0,1024,3072,0,8192,24576,0,65560,0,458776,0,0,4128792,0,0,0,67043352,134217727,268435455,536870911]
theorem bB.Ahi:gS .any (opsOf Try.f38 11)=bB.T11:=by kernel_rfl
theorem bB.Ab0:dN bB.T11.2 bB.B11=true:=by kernel_rfl
theorem bB.calls (k:Nat) (A0:Option Addr) (c0:Nat) (l0:List Int) (r1:Int) (r2:Int) (r3:Int) (r4:Int) (r5:Int) (r6:Int) (r7:Int) (r8:Int) (r9:List Int) (uN:List Int) (Cy:Int) (w:World) (hr0:Kd.C (Kd.int .u8) w A0 l0.length l0) (hc0:l0.length<=c0) (h:bB.f k l0=some (r1,r2,r3,r4,r5,r6,r7,r8,r9,uN,Cy)):
  Calls Try.prog 38 #[.slice A0 l0.length c0] w fun e w'=>∃ BS BU:Value,e= .returned (.tuple #[.agg #[.int .u8 r1,.int .u8 r2,.int .u8 r3,.int .u16 r4,.int .u8 r5,.int .u16 r6,.int .u32 r7,.int .u32 r8,BS,BU],.int .i64 Cy]) /\ Kd.R (Kd.int .u8) 5 w' w.heap.size (fun k_=>some k_≠(BU:Value).ownBlock) BS r9 /\ Kd.R (Kd.int .u8) 5 w' w.heap.size (fun k_=>some k_≠(BS:Value).ownBlock) BU uN /\ Below w.heap.size w w':=by
 have jb:=Try.underlying73;have gh:=aa.mk hr0;have jC:=aa.mk hc0;clear hr0 hc0;have HB:=gj w;have H:(if (l0.length:Int)<20 then (some (0,0,0,0,0,0,0,0,([]:List Int),([]:List Int),20)) else (if 0<(l0.length:Int) then ((aX.f l0 2).bind fun sU=>(if ((rd l0 0) / 16)=4 then (if (wrap64 ((wrap64 (Go.bits .and .u8 (rd l0 0) 15))*4))<20 then (bB.j0 k l0 (wrap64 ((wrap64 (Go.bits .and .u8 (rd l0 0) 15))*4)) (wrap64 (sU)) true) else (bB.j0 k l0 (wrap64 ((wrap64 (Go.bits .and .u8 (rd l0 0) 15))*4)) (wrap64 (sU)) (decide ((wrap64 (sU))<(wrap64 ((wrap64 (Go.bits .and .u8 (rd l0 0) 15))*4)))))) else (bB.j0 k l0 (wrap64 ((wrap64 (Go.bits .and .u8 (rd l0 0) 15))*4)) (wrap64 (sU)) true))) else (none)))=some (r1,r2,r3,r4,r5,r6,r7,r8,r9,uN,Cy):=h
 clear h
 by_cases c2:(l0.length:Int)<20
 ·rw [au c2] at H
  have kg:decide ((l0.length:Int)<20)=true:=bS c2;have mG:decide (l0.length<20)=true:=bS (by omega);clear c2;simp only [Option.some.injEq,Prod.mk.injEq] at H
  obtain ⟨rfl,rfl,rfl,rfl,rfl,rfl,rfl,rfl,rfl,rfl,rfl⟩:=H
  go_enter Try.func38,Try.ntmps38
  go_wp2_with (first|((with_reducible refine aA (N:=2) rfl ?_);(try (refine eN (by rfl) ?_;dsimp only));refine aC ?hg (N:=2) ?hd (cs:= #[.int .u8 0,.int .u8 0,.int .u8 0,.int .u16 0,.int .u8 0,.int .u16 0,.int .u32 0,.int .u32 0,.slice none 0 0,.slice none 0 0]) (t:=73) ?hr ?_;(case hd=>rfl);(case hg=>rfl);(case hr=>first|(go_simp;done)|(go_simp;rfl));intro ek hg w3 bK hb;have aJ:=aa.mk (aq (bz HB) hb);have aQ:=aa.mk (bK);have bt:=aa.mk ((by rw [hg];exact (af (bz HB)):w.heap.size<=ek));have cr:=aa.mk ((by rw [hg];exact (af (bz HB)):w.heap.size<=ek));clear HB;have HB:=aJ;have dP:=aQ;have fT:=bt;have Ahj:=cr;clear aJ aQ bt cr;clear hb bK hg;have pP:w3.cell? ⟨ek,0,none⟩=some (.int .u8 0):=cz dP.out 0 rfl;have pQ:w3.cell? ⟨ek,1,none⟩=some (.int .u8 0):=cz dP.out 1 rfl;have pR:w3.cell? ⟨ek,2,none⟩=some (.int .u8 0):=cz dP.out 2 rfl;have pS:w3.cell? ⟨ek,3,none⟩=some (.int .u16 0):=cz dP.out 3 rfl;have tU:w3.cell? ⟨ek,4,none⟩=some (.int .u8 0):=cz dP.out 4 rfl;have Gt:w3.cell? ⟨ek,5,none⟩=some (.int .u16 0):=cz dP.out 5 rfl;have Gu:w3.cell? ⟨ek,6,none⟩=some (.int .u32 0):=cz dP.out 6 rfl;have Gv:w3.cell? ⟨ek,7,none⟩=some (.int .u32 0):=cz dP.out 7 rfl;have Gw:w3.cell? ⟨ek,8,none⟩=some (.slice none 0 0):=cz dP.out 8 rfl;have Gx:w3.cell? ⟨ek,9,none⟩=some (.slice none 0 0):=cz dP.out 9 rfl;have pT:=ae dP.out 0;have pU:=ae dP.out 1;have pV:=ae dP.out 2;have pW:=ae dP.out 3;have tV:=ae dP.out 4;have Gy:=ae dP.out 5;have Gz:=ae dP.out 6;have GA:=ae dP.out 7;have GD:=ae dP.out 8;have GF:=ae dP.out 9))
  refine bodyPost_ret (fC rfl _ _ ek 73 #[.int .u8 0,.int .u8 0,.int .u8 0,.int .u16 0,.int .u8 0,.int .u16 0,.int .u32 0,.int .u32 0,.slice none 0 0,.slice none 0 0] (0,0) _ rfl (by (repeat (first|with_reducible refine aN ?_ _|with_reducible refine aK ?_|with_reducible refine aM ?_ _|refine bM (cs:= #[.int .u8 0,.int .u8 0,.int .u8 0,.int .u16 0,.int .u8 0,.int .u16 0,.int .u32 0,.int .u32 0,.slice none 0 0,.slice none 0 0]) ?_ _ _ rfl));(with_reducible repeat (first|refine aN ?_ _|refine aK ?_|refine aM ?_ _));exact dP.out) Try.underlying73 rfl (by kernel_rfl)) rfl ?_
  exact ⟨_,_,by first|rfl|(simp [aj,ak]<;>rfl)|(simp [*,aj,ak]<;>rfl),by first|exact Kd.cl _ _ _ _ _|exact Kd.ju _ _ _ _ _|exact Kd.jv _ _ _ _ _|exact Kd.jr _ _ _ _ _|exact Kd.js _ _ _ _ _,by first|exact Kd.cl _ _ _ _ _|exact Kd.ju _ _ _ _ _|exact Kd.jv _ _ _ _ _|exact Kd.jr _ _ _ _ _|exact Kd.js _ _ _ _ _,bz HB⟩
 ·rw [ax c2] at H
  have kg:decide ((l0.length:Int)<20)=false:=gO c2;have mG:decide (l0.length<20)=false:=gO (by omega);clear c2
  by_cases c5:0<(l0.length:Int)
  ·rw [au c5] at H
   have mS:decide (0<(l0.length:Int))=true:=bS c5;have qz:decide (0<l0.length)=true:=bS (by omega);clear c5;replace H:=cZ H;obtain ⟨sU,wq,H⟩:=H
   (try dsimp -simprocs only at H)
   have A6:=aa.mk wq;clear wq;have HC7:=aa.mk H;clear H
   go_enter Try.func38,Try.ntmps38
   try go_wp2_with (first|((with_reducible refine aA (N:=2) rfl ?_);(try (refine eN (by rfl) ?_;dsimp only));refine aC ?hg (N:=2) ?hd (cs:= #[.int .u8 0,.int .u8 0,.int .u8 0,.int .u16 0,.int .u8 0,.int .u16 0,.int .u32 0,.int .u32 0,.slice none 0 0,.slice none 0 0]) (t:=73) ?hr ?_;(case hd=>rfl);(case hg=>rfl);(case hr=>first|(go_simp;done)|(go_simp;rfl));intro ek hg w8 bK hb;have aJ:=aa.mk (aq (bz HB) hb);have aQ:=aa.mk (bK);have bt:=aa.mk ((by rw [hg];exact (af (bz HB)):w.heap.size<=ek));have cr:=aa.mk ((by rw [hg];exact (af (bz HB)):w.heap.size<=ek));clear HB;have HB:=aJ;have dP:=aQ;have fT:=bt;have Ahj:=cr;clear aJ aQ bt cr;clear hb bK hg))
   have aJ:=aa.mk (aK dP.out);have aQ:=aa.mk (bf HB.out);clear dP;clear HB;have dP:=aJ;have HB:=aQ;clear aJ aQ;have SQ:0<=(0:Int):=(by omega)
   have SR:0<(l0.length:Int):=gD;obtain ⟨nu,Aoc,sA⟩:=Kd.dB gh.out 0 SQ SR;have we:=sA
   (try rw [show ((0:Int)).toNat=0 from rfl] at we)
   (try rw [show 0*1=0 from rfl] at we)
   (try rw [Addr.add_zero'] at we)
   cases Aoc
   have ArR:(0<l0.length)=True:=eq_true (by omega)
   (try rw [show ((0:Int)).toNat=0 from rfl] at sA)
   (try rw [Addr.add_zero'] at sA)
   replace sA:=(HB.out.cell (dA w _ sA)).trans sA;replace SQ:=eq_true SQ;replace SR:=eq_true SR;refine dg (n:=11) (S:=fun w'=>w'.cell? nu=some (.int .u8 (rd l0 0))) (ds:=[]) #[false,false,false,false,false,false,false,false,false,false,false] (by kernel_rfl) rfl rfl (((HB.out.cell (dA w _ we)).trans we)) (fun hHeld=> ?_);refine bH bB.KD bB.CA (fun az dW=> ?_);generalize w8.drew=w9 at dP HB sA hHeld|-
   refine pz 0 11 az ?_;refine pz 1 12 az ?_;refine pz 6 17 az ?_;refine tz 2 13 az dW hHeld ?_;refine pz 3 14 az ?_;refine pz 4 15 az ?_;refine pz 5 16 az ?_;refine oz 7 (some 18) az (fun K hK=> ?_);refine gG Try.func64 #[.slice (some nu) l0.length c0,.int .i64 2] ?_
   with_reducible refine (aX.calls _ _ l0 2 sU _ ?aG ?aH A6.out).mono ?_
   (case aG=>exact Kd.aU gh.out (bz HB))
   (case aH=>exact jC.out)
   rintro e w' ⟨rfl,⟨nd,rfl⟩⟩;refine ⟨_,rfl, ?_⟩;refine hK.out _ _ (((HB.out.cell (dA w _ we)).trans we)) (fun hHeld=> ?_);clear hK K;refine nz 18 ?_;refine pz 8 19 az ?_;refine pz 9 4 az ?_;refine pz 10 5 az ?_;refine dz az ?_
   go_upto_region 4 with (fail)
   go_cut [33] (fun v33 wc=>∃ (kq:Nat) (Nm:Bool),v33= .bool Nm /\ aa (bB.j0 kq l0 (wrap64 ((wrap64 (Go.bits .and .u8 (rd l0 0) 15))*4)) (wrap64 (sU)) Nm=some (r1,r2,r3,r4,r5,r6,r7,r8,r9,uN,Cy)) /\ aa (kq<=k) /\ aa (wc.heap[ek]?=some (.cells #[.int .u8 0,.int .u8 0,.int .u8 0,.int .u16 0,.int .u8 0,.int .u16 0,.int .u32 0,.int .u32 0,(.slice none 0 0),(.slice none 0 0)] 73 (0,0))) /\ aa (Below w.heap.size w wc))
   case first=>
    have H:=HC7.out;clear HC7
    by_cases Ba:((rd l0 0) / 16)=4
    ·rw [au Ba] at H
     have uw:(((rd l0 0) / 16)==4)=true:=fH Ba;have Mo:(((rd l0 0) / 16) !=4)=false:=kO Ba;clear Ba
     (first|rw [uw]|(simp only [jk,mo];rw [uw])|skip)
     by_cases ru:(wrap64 ((wrap64 (Go.bits .and .u8 (rd l0 0) 15))*4))<20
     ·rw [au ru] at H
      have Bb:decide ((wrap64 ((wrap64 (Go.bits .and .u8 (rd l0 0) 15))*4))<20)=true:=bS ru;clear ru;have H':=aa.mk H;clear H;have DR:0<=(0:Int):=(by omega)
      have DS:0<(l0.length:Int):=gD;obtain ⟨J1,SS,lZ⟩:=Kd.dB gh.out 0 DR DS;obtain rfl:nu=J1:=(by injection SS)
      have Yd:(0<l0.length)=True:=eq_true (by omega)
      (try rw [show ((0:Int)).toNat=0 from rfl] at lZ)
      (try rw [Addr.add_zero'] at lZ)
      replace lZ:=(HB.out.cell (dA w _ lZ)).trans lZ;replace DR:=eq_true DR;replace DS:=eq_true DS
      go_wp2
      go_meet
      case rel=>exact ⟨_,(true),(by first|rfl|(simp;done)|(simp [*];done)),H',⟨by first|omega|exact Nat.le_refl _⟩,⟨kz dP⟩,⟨bz HB⟩⟩
     ·rw [ax ru] at H
      have Bb:decide ((wrap64 ((wrap64 (Go.bits .and .u8 (rd l0 0) 15))*4))<20)=false:=gO ru;clear ru;have H':=aa.mk H;clear H;have DR:0<=(0:Int):=(by omega)
      have DS:0<(l0.length:Int):=gD;obtain ⟨J1,SS,lZ⟩:=Kd.dB gh.out 0 DR DS;obtain rfl:nu=J1:=(by injection SS)
      have Yd:(0<l0.length)=True:=eq_true (by omega)
      (try rw [show ((0:Int)).toNat=0 from rfl] at lZ)
      (try rw [Addr.add_zero'] at lZ)
      replace lZ:=(HB.out.cell (dA w _ lZ)).trans lZ;replace DR:=eq_true DR;replace DS:=eq_true DS
      go_wp2
      go_meet
      case rel=>exact ⟨_,(decide ((wrap64 (sU))<(wrap64 ((wrap64 (Go.bits .and .u8 (rd l0 0) 15))*4)))),(by first|rfl|(simp;done)|(simp [*];done)),H',⟨by first|omega|exact Nat.le_refl _⟩,⟨kz dP⟩,⟨bz HB⟩⟩
    ·rw [ax Ba] at H
     have uw:(((rd l0 0) / 16)==4)=false:=fc Ba;have Mo:(((rd l0 0) / 16) !=4)=true:=lA Ba
     (first|rw [uw]|(simp only [jk,mo];rw [uw])|skip)
     have H':=aa.mk H;clear H;have DR:0<=(0:Int):=(by omega)
     have DS:0<(l0.length:Int):=gD;obtain ⟨J1,SS,lZ⟩:=Kd.dB gh.out 0 DR DS;obtain rfl:nu=J1:=(by injection SS)
     have Yd:(0<l0.length)=True:=eq_true (by omega)
     (try rw [show ((0:Int)).toNat=0 from rfl] at lZ)
     (try rw [Addr.add_zero'] at lZ)
     replace lZ:=(HB.out.cell (dA w _ lZ)).trans lZ;replace DR:=eq_true DR;replace DS:=eq_true DS
     go_wp2
     go_meet
     case rel=>exact ⟨_,(true),(by first|rfl|(simp;done)|(simp [*];done)),H',⟨by first|omega|exact Nat.le_refl _⟩,⟨kz dP⟩,⟨bz HB⟩⟩
   case rest=>
    clear HC7
    try clear c2
    try clear kg
    try clear mG
    try clear c5
    try clear mS
    try clear qz
    try clear sA
    try clear SQ
    try clear SR
    obtain ⟨kq,Nm,rfl,HA,HJ6,dP,HB⟩:=hcut
    cases kq with
    |zero=>exact absurd HA.out (by simp [bB.j0])
    |succ kj6=>
     have H:=HA.out;clear HA;simp only [bB.j0] at H
     by_cases uO:Nm=true
     ·subst uO
      have H1:(some (0,0,0,0,0,0,0,0,([]:List Int),([]:List Int),21))=some (r1,r2,r3,r4,r5,r6,r7,r8,r9,uN,Cy):=by rw [au rfl] at H;exact H
      clear H;have H:=H1;clear H1;simp only [Option.some.injEq,Prod.mk.injEq] at H
      obtain ⟨rfl,rfl,rfl,rfl,rfl,rfl,rfl,rfl,rfl,rfl,rfl⟩:=H;have Sc:=rC dP.out;have Sd:=ae dP.out
      go_wp2
      refine bodyPost_ret (fC rfl _ _ ek 73 #[.int .u8 0,.int .u8 0,.int .u8 0,.int .u16 0,.int .u8 0,.int .u16 0,.int .u32 0,.int .u32 0,.slice none 0 0,.slice none 0 0] (0,0) _ rfl (by (repeat (first|with_reducible refine aN ?_ _|with_reducible refine aK ?_|with_reducible refine aM ?_ _|refine bM (cs:= #[.int .u8 0,.int .u8 0,.int .u8 0,.int .u16 0,.int .u8 0,.int .u16 0,.int .u32 0,.int .u32 0,.slice none 0 0,.slice none 0 0]) ?_ _ _ rfl));(with_reducible repeat (first|refine aN ?_ _|refine aK ?_|refine aM ?_ _));exact dP.out) Try.underlying73 rfl (by kernel_rfl)) rfl ?_
      exact ⟨_,_,by first|rfl|(simp [aj,ak]<;>rfl)|(simp [*,aj,ak]<;>rfl),by first|exact Kd.cl _ _ _ _ _|exact Kd.ju _ _ _ _ _|exact Kd.jv _ _ _ _ _|exact Kd.jr _ _ _ _ _|exact Kd.js _ _ _ _ _,by first|exact Kd.cl _ _ _ _ _|exact Kd.ju _ _ _ _ _|exact Kd.jv _ _ _ _ _|exact Kd.jr _ _ _ _ _|exact Kd.js _ _ _ _ _,bz HB⟩
     ·replace uO:=xP uO
      subst uO;have H1:(if (l0.length:Int)<(wrap64 ((wrap64 (Go.bits .and .u8 (rd l0 0) 15))*4)) then (bB.j1 kj6 l0 (wrap64 ((wrap64 (Go.bits .and .u8 (rd l0 0) 15))*4)) (wrap64 (sU)) true) else (bB.j1 kj6 l0 (wrap64 ((wrap64 (Go.bits .and .u8 (rd l0 0) 15))*4)) (wrap64 (sU)) (decide ((l0.length:Int)<(wrap64 (sU))))))=some (r1,r2,r3,r4,r5,r6,r7,r8,r9,uN,Cy):=by rw [ax (show ¬ (false=true) by decide)] at H;exact H
      clear H;have H:=H1;clear H1;have Ab1:=aa.mk H;clear H
      go_upto_region 6 with (fail)
      go_cut [44] (fun v44 wc=>∃ (kq:Nat) (G7:Bool),v44= .bool G7 /\ aa (bB.j1 kq l0 (wrap64 ((wrap64 (Go.bits .and .u8 (rd l0 0) 15))*4)) (wrap64 (sU)) G7=some (r1,r2,r3,r4,r5,r6,r7,r8,r9,uN,Cy)) /\ aa (kq<=kj6) /\ aa (wc.heap[ek]?=some (.cells #[.int .u8 0,.int .u8 0,.int .u8 0,.int .u16 0,.int .u8 0,.int .u16 0,.int .u32 0,.int .u32 0,(.slice none 0 0),(.slice none 0 0)] 73 (0,0))) /\ aa (Below w.heap.size w wc))
      case first=>
       have H:=Ab1.out;clear Ab1
       by_cases wP:(l0.length:Int)<(wrap64 ((wrap64 (Go.bits .and .u8 (rd l0 0) 15))*4))
       ·rw [au wP] at H
        have wQ:decide ((l0.length:Int)<(wrap64 ((wrap64 (Go.bits .and .u8 (rd l0 0) 15))*4)))=true:=bS wP;clear wP
        (first|rw [wQ]|(simp only [jk,mo];rw [wQ])|skip)
        have H':=aa.mk H;clear H
        go_wp2
        go_meet
        case rel=>exact ⟨_,(true),(by first|rfl|(simp;done)|(simp [*];done)),H',⟨by have:=HJ6.out;first|omega|exact Nat.le_refl _⟩,⟨kz dP⟩,⟨bz HB⟩⟩
       ·rw [ax wP] at H
        have wQ:decide ((l0.length:Int)<(wrap64 ((wrap64 (Go.bits .and .u8 (rd l0 0) 15))*4)))=false:=gO wP;clear wP
        (first|rw [wQ]|(simp only [jk,mo];rw [wQ])|skip)
        have H':=aa.mk H;clear H
        go_wp2
        go_meet
        case rel=>exact ⟨_,(decide ((l0.length:Int)<(wrap64 (sU)))),(by first|rfl|(simp;done)|(simp [*];done)),H',⟨by have:=HJ6.out;first|omega|exact Nat.le_refl _⟩,⟨kz dP⟩,⟨bz HB⟩⟩
      case rest=>
       clear Ab1
       try clear c2
       try clear kg
       try clear mG
       try clear c5
       try clear mS
       try clear qz
       try clear uO
       try clear sA
       try clear SQ
       try clear SR
       obtain ⟨kq,G7,rfl,HA,Avl,dP,HB⟩:=hcut
       cases kq with
       |zero=>exact absurd HA.out (by simp [bB.j1])
       |succ J2=>
        have H:=HA.out;clear HA;simp only [bB.j1] at H
        by_cases KM:G7=true
        ·subst KM
         have H1:(some (0,0,0,0,0,0,0,0,([]:List Int),([]:List Int),20))=some (r1,r2,r3,r4,r5,r6,r7,r8,r9,uN,Cy):=by rw [au rfl] at H;exact H
         clear H;have H:=H1;clear H1;simp only [Option.some.injEq,Prod.mk.injEq] at H
         obtain ⟨rfl,rfl,rfl,rfl,rfl,rfl,rfl,rfl,rfl,rfl,rfl⟩:=H;have Ahk:=rC dP.out;have Ahl:=ae dP.out
         go_wp2
         refine bodyPost_ret (fC rfl _ _ ek 73 #[.int .u8 0,.int .u8 0,.int .u8 0,.int .u16 0,.int .u8 0,.int .u16 0,.int .u32 0,.int .u32 0,.slice none 0 0,.slice none 0 0] (0,0) _ rfl (by (repeat (first|with_reducible refine aN ?_ _|with_reducible refine aK ?_|with_reducible refine aM ?_ _|refine bM (cs:= #[.int .u8 0,.int .u8 0,.int .u8 0,.int .u16 0,.int .u8 0,.int .u16 0,.int .u32 0,.int .u32 0,.slice none 0 0,.slice none 0 0]) ?_ _ _ rfl));(with_reducible repeat (first|refine aN ?_ _|refine aK ?_|refine aM ?_ _));exact dP.out) Try.underlying73 rfl (by kernel_rfl)) rfl ?_
         exact ⟨_,_,by first|rfl|(simp [aj,ak]<;>rfl)|(simp [*,aj,ak]<;>rfl),by first|exact Kd.cl _ _ _ _ _|exact Kd.ju _ _ _ _ _|exact Kd.jv _ _ _ _ _|exact Kd.jr _ _ _ _ _|exact Kd.js _ _ _ _ _,by first|exact Kd.cl _ _ _ _ _|exact Kd.ju _ _ _ _ _|exact Kd.jv _ _ _ _ _|exact Kd.jr _ _ _ _ _|exact Kd.js _ _ _ _ _,bz HB⟩
        ·replace KM:=xP KM
         subst KM
         have H1:(if 0<=(wrap64 ((wrap64 (Go.bits .and .u8 (rd l0 0) 15))*4)) then (if (wrap64 ((wrap64 (Go.bits .and .u8 (rd l0 0) 15))*4))<=(l0.length:Int) then ((bZ.f J2 0 (l0.take ((wrap64 ((wrap64 (Go.bits .and .u8 (rd l0 0) 15))*4)):Int).toNat)).bind fun BJ=>((bO.f J2 BJ).bind fun AQ=>(if AQ=65535 then ((aX.f l0 6).bind fun rJ=>(if 1<(l0.length:Int) then ((aX.f l0 4).bind fun ym=>(if 8<(l0.length:Int) then (if 9<(l0.length:Int) then ((dL.f l0 12).bind fun AR=>((dL.f l0 16).bind fun BK=>((ew.f l0 20 (wrap64 ((wrap64 (Go.bits .and .u8 (rd l0 0) 15))*4))).bind fun DQ=>((ew.f l0 (wrap64 ((wrap64 (Go.bits .and .u8 (rd l0 0) 15))*4)) (wrap64 (sU))).bind fun EA=>(some (rd l0 1,rd l0 8,rd l0 9,ym,(rJ / 8192) % 256,Go.bits .and .u16 rJ 8191,AR,BK,DQ,EA,0)))))) else (none)) else (none))) else (none))) else (some (0,0,0,0,0,0,0,0,([]:List Int),([]:List Int),22))))) else (none)) else (none))=some (r1,r2,r3,r4,r5,r6,r7,r8,r9,uN,Cy):=by rw [ax (show ¬ (false=true) by decide)] at H;exact H
         clear H;have H:=H1;clear H1;obtain ⟨rf,zX⟩:∃ j_:Int,(wrap64 ((wrap64 (Go.bits .and .u8 (rd l0 0) 15))*4))=j_:=⟨_,rfl⟩
         replace H:(if 0<=(rf) then (if (rf)<=(l0.length:Int) then ((bZ.f J2 0 (l0.take ((rf):Int).toNat)).bind fun BJ=>((bO.f J2 BJ).bind fun AQ=>(if AQ=65535 then ((aX.f l0 6).bind fun rJ=>(if 1<(l0.length:Int) then ((aX.f l0 4).bind fun ym=>(if 8<(l0.length:Int) then (if 9<(l0.length:Int) then ((dL.f l0 12).bind fun AR=>((dL.f l0 16).bind fun BK=>((ew.f l0 20 (rf)).bind fun DQ=>((ew.f l0 (rf) (wrap64 (sU))).bind fun EA=>(some (rd l0 1,rd l0 8,rd l0 9,ym,(rJ / 8192) % 256,Go.bits .and .u16 rJ 8191,AR,BK,DQ,EA,0)))))) else (none)) else (none))) else (none))) else (some (0,0,0,0,0,0,0,0,([]:List Int),([]:List Int),22))))) else (none)) else (none))=some (r1,r2,r3,r4,r5,r6,r7,r8,r9,uN,Cy):=by first|(rw [zX] at H;exact H)|(simp only [zX] at H|-;exact H)
         have Aoe:(IntKind.i64.wrap ((wrap64 (Go.bits .and .u8 (rd l0 0) 15))*4))=rf:=(jk _).trans zX
         by_cases Aj:0<=(rf)
         ·rw [au Aj] at H
          have PU:=eq_true Aj;have We:decide (0<=(rf))=true:=bS Aj;clear Aj
          by_cases Lb:(rf)<=(l0.length:Int)
          ·rw [au Lb] at H
           have ArT:=eq_true Lb;have ArU:decide ((rf)<=(l0.length:Int))=true:=bS Lb;clear Lb;replace H:=cZ H;obtain ⟨BJ,JJ,H⟩:=H
           (try dsimp -simprocs only at H)
           have A21:=aa.mk JJ;clear JJ;replace H:=cZ H;obtain ⟨AQ,Qh,H⟩:=H
           (try dsimp -simprocs only at H)
           have A22:=aa.mk Qh;clear Qh
           by_cases Ix:AQ=65535
           ·rw [au Ix] at H
            have Qi:(AQ==65535)=true:=fH Ix;have Wx:(AQ !=65535)=false:=kO Ix;clear Ix;replace H:=cZ H;obtain ⟨rJ,Ahm,H⟩:=H
            (try dsimp -simprocs only at H)
            have A24:=aa.mk Ahm;clear Ahm
            by_cases MF:1<(l0.length:Int)
            ·rw [au MF] at H
             have ArV:decide (1<(l0.length:Int))=true:=bS MF;have ArW:decide (1<l0.length)=true:=bS (by omega);clear MF;replace H:=cZ H;obtain ⟨ym,Iy,H⟩:=H
             (try dsimp -simprocs only at H)
             have A26:=aa.mk Iy;clear Iy
             by_cases Tb:8<(l0.length:Int)
             ·rw [au Tb] at H
              have Ad0:decide (8<(l0.length:Int))=true:=bS Tb;have Ad1:decide (8<l0.length)=true:=bS (by omega);clear Tb
              by_cases c28:9<(l0.length:Int)
              ·rw [au c28] at H
               have Ad2:decide (9<(l0.length:Int))=true:=bS c28;have ArX:decide (9<l0.length)=true:=bS (by omega);clear c28;replace H:=cZ H;obtain ⟨AR,Qj,H⟩:=H
               (try dsimp -simprocs only at H)
               have A29:=aa.mk Qj;clear Qj;replace H:=cZ H;obtain ⟨BK,Ahn,H⟩:=H
               (try dsimp -simprocs only at H)
               have wE:=aa.mk Ahn;clear Ahn;replace H:=cZ H;obtain ⟨DQ,Rv,H⟩:=H
               (try dsimp -simprocs only at H)
               have A31:=aa.mk Rv;clear Rv;replace H:=cZ H;obtain ⟨EA,Rc,H⟩:=H
               (try dsimp -simprocs only at H)
               have A32:=aa.mk Rc;clear Rc;simp only [Option.some.injEq,Prod.mk.injEq] at H
               obtain ⟨rfl,rfl,rfl,rfl,rfl,rfl,rfl,rfl,rfl,rfl,rfl⟩:=H;obtain ⟨Avm,Ye,_,Yf,_⟩:=info_parts gB;obtain ⟨Aof,Aho,Ahp⟩:=oK (P:=Try.prog) (Value.int .u8) 0 23 5 .i64 Try.underlying23 Ye Yf (some nu) c0 l0 (rf) gD gD jC.out;have SU:=aa.mk (Kd.dD (h1:=fun _=>rfl) (Aho _ (Kd.dc gh.out)));have SV:=aa.mk Ahp;clear Aho Ahp Ye Yf
               try go_wp2_with (first|((with_reducible refine ay (f:=80) rfl ?_);refine tQ (some 49) rfl rfl Try.func80 (by kernel_rfl) rfl #[.int .u32 0,.slice (some nu) (l0.take ((rf):Int).toNat).length c0] rfl (by (try simp only [List.map_toArray,List.map_cons,List.map_nil]);first|done|(rw [show (l0.take ((rf):Int).toNat).length=(rf).toNat from (by rw [List.length_take];have h_:((rf):Int)<=(l0.length:Int):=gD;omega)]<;>rfl)|(simp only [zX];rfl)|rfl|(simp only [List.length_drop,List.length_take];rfl)|(go_simp;done)|(simp [Act.eval,IntKind.signed];done)|(simp [Act.eval,IntKind.signed];rfl)) ?_;(with_reducible refine (bZ.calls J2 0 _ _ (l0.take ((rf):Int).toNat) BJ _ ?aG ?aH A21.out).mono ?_);(case aG=>exact Kd.aU SU.out (bz HB));(case aH=>exact SV.out);rintro e Lc ⟨rfl,hb⟩;refine ⟨_,rfl, ?_⟩;have aJ:=aa.mk (bn (kz dP) hb);have aQ:=aa.mk (aq (bz HB) hb);clear dP;clear HB;have dP:=aJ;have HB:=aQ;clear aJ aQ;(try clear hb);(try clear hb2);(try clear hk);(try clear hi))|((with_reducible refine ay (f:=79) rfl ?_);refine gL 50 Try.func79 #[.int .u32 BJ] ?_;(with_reducible refine (bO.calls J2 BJ AQ _ A22.out).mono ?_);rintro e w' ⟨rfl,⟨nd,rfl⟩⟩;refine ⟨_,rfl, ?_⟩;(try (rw [fg Lc];generalize j5:World.drewN Lc _=Lc;have aJ:aa (Lc.heap[ek]?=some (.cells #[.int .u8 0,.int .u8 0,.int .u8 0,.int .u16 0,.int .u8 0,.int .u16 0,.int .u32 0,.int .u32 0,.slice none 0 0,.slice none 0 0] 73 (0,0))):=⟨by rw [<- j5];exact (kz dP)⟩;have aQ:aa (Below w.heap.size w Lc):=⟨by rw [<- j5];exact bz HB⟩;clear dP HB j5;have dP:=aJ;have HB:=aQ;clear aJ aQ)))|((with_reducible refine ay (f:=64) rfl ?_);refine gL 54 Try.func64 #[.slice (some nu) l0.length c0,.int .i64 6] ?_;(with_reducible refine (aX.calls _ _ l0 6 rJ _ ?aG ?aH A24.out).mono ?_);(case aG=>exact Kd.aU gh.out (bz HB));(case aH=>exact jC.out);rintro e w' ⟨rfl,⟨nd,rfl⟩⟩;refine ⟨_,rfl, ?_⟩;(try (rw [fg Lc];generalize j5:World.drewN Lc _=Lc;have aJ:aa (Lc.heap[ek]?=some (.cells #[.int .u8 0,.int .u8 0,.int .u8 0,.int .u16 0,.int .u8 0,.int .u16 0,.int .u32 0,.int .u32 0,.slice none 0 0,.slice none 0 0] 73 (0,0))):=⟨by rw [<- j5];exact (kz dP)⟩;have aQ:aa (Below w.heap.size w Lc):=⟨by rw [<- j5];exact bz HB⟩;clear dP HB j5;have dP:=aJ;have HB:=aQ;clear aJ aQ))))
               have aJ:=aa.mk (aK dP.out);have aQ:=aa.mk (bf HB.out);clear dP;clear HB;have dP:=aJ;have HB:=aQ;clear aJ aQ;have Ab2:0<=(1:Int):=(by omega)
               have Ab3:1<(l0.length:Int):=gD;obtain ⟨Ahq,Aog,wg⟩:=Kd.dB gh.out 1 Ab2 Ab3;have f6:=wg
               (try rw [show ((1:Int)).toNat=1 from rfl] at f6)
               (try rw [show 1*1=1 from rfl] at f6)
               (try simp only [Nat.reduceMul,Nat.reduceEqDiff,Go.Addr.add,↓reduceIte] at f6)
               obtain rfl:nu=Ahq:=(by injection Aog)
               (try simp only [show (1:Int).toNat=1 from rfl,Nat.reduceMul,Nat.reduceEqDiff,Go.Addr.add,↓reduceIte] at wg)
               have ArY:(1<l0.length)=True:=eq_true (by omega)
               (try rw [show ((1:Int)).toNat=1 from rfl] at wg)
               replace wg:=(HB.out.cell (dA w _ wg)).trans wg;replace Ab2:=eq_true Ab2;replace Ab3:=eq_true Ab3;have Ab4:0<=(8:Int):=(by omega)
               have Ab5:8<(l0.length:Int):=gD;obtain ⟨Ahr,Aoh,wh⟩:=Kd.dB gh.out 8 Ab4 Ab5;have f8:=wh
               (try rw [show ((8:Int)).toNat=8 from rfl] at f8)
               (try rw [show 8*1=8 from rfl] at f8)
               (try simp only [Nat.reduceMul,Nat.reduceEqDiff,Go.Addr.add,↓reduceIte] at f8)
               obtain rfl:nu=Ahr:=(by injection Aoh)
               (try simp only [show (8:Int).toNat=8 from rfl,Nat.reduceMul,Nat.reduceEqDiff,Go.Addr.add,↓reduceIte] at wh)
               have ArZ:(8<l0.length)=True:=eq_true (by omega)
               (try rw [show ((8:Int)).toNat=8 from rfl] at wh)
               replace wh:=(HB.out.cell (dA w _ wh)).trans wh;replace Ab4:=eq_true Ab4;replace Ab5:=eq_true Ab5;have Ab6:0<=(9:Int):=(by omega)
               have Ab7:9<(l0.length:Int):=gD;obtain ⟨Ahs,Aoi,wj⟩:=Kd.dB gh.out 9 Ab6 Ab7;have f9:=wj
               (try rw [show ((9:Int)).toNat=9 from rfl] at f9)
               (try rw [show 9*1=9 from rfl] at f9)
               (try simp only [Nat.reduceMul,Nat.reduceEqDiff,Go.Addr.add,↓reduceIte] at f9)
               obtain rfl:nu=Ahs:=(by injection Aoi)
               (try simp only [show (9:Int).toNat=9 from rfl,Nat.reduceMul,Nat.reduceEqDiff,Go.Addr.add,↓reduceIte] at wj)
               have Ar0:(9<l0.length)=True:=eq_true (by omega)
               (try rw [show ((9:Int)).toNat=9 from rfl] at wj)
               replace wj:=(HB.out.cell (dA w _ wj)).trans wj;replace Ab6:=eq_true Ab6;replace Ab7:=eq_true Ab7
               refine dg (n:=30) (S:=fun w'=>w'.cell? ⟨nu.block,nu.off+1,none⟩=some (.int .u8 (rd l0 1)) /\ w'.cell? ⟨nu.block,nu.off+8,none⟩=some (.int .u8 (rd l0 8)) /\ w'.cell? ⟨nu.block,nu.off+9,none⟩=some (.int .u8 (rd l0 9))) (ds:=[]) #[false,false,false,false,false,false,false,false,false,false,false,false,false,false,false,false,false,false,false,false,false,false,false,false,false,false,false,false,false,false] (by kernel_rfl) rfl rfl ⟨((HB.out.cell (dA w _ f6)).trans f6),((HB.out.cell (dA w _ f8)).trans f8),((HB.out.cell (dA w _ f9)).trans f9)⟩ (fun hHeld=> ?_);refine bH bB.Ahi bB.Ab0 (fun az dW=> ?_);generalize Lc.drew=Ak at dP HB wg wh wj hHeld|-
               refine pz 0 55 az ?_;refine pz 1 56 az ?_;refine pz 3 58 az ?_;refine pz 5 60 az ?_;refine pz 6 61 az ?_;refine pz 7 62 az ?_;refine pz 8 63 az ?_;refine pz 9 64 az ?_;refine pz 10 65 az ?_;refine pz 11 66 az ?_;refine pz 13 68 az ?_;refine pz 14 69 az ?_;refine pz 16 71 az ?_;refine pz 18 73 az ?_;refine pz 20 75 az ?_;refine pz 21 76 az ?_;refine pz 23 78 az ?_;refine pz 24 79 az ?_;refine pz 25 80 az ?_;refine gK (i:=2) (N:=some 57) (v:= ?_) (a':= ?_) #[true,true,true,true,false,true,true,true,true,true,true,true,false,true,true,false,true,false,true,false,true,true,false,true,true,true,false,false,false,false] rfl rfl (dn az.out dW.out (by kernel_rfl)) (fun _ _ _ h=>h) (Or.inl ⟨by rfl, ?_⟩) hHeld ?_ ?_
               rotate_left
               ·rintro w' ⟨s0,s1,s2⟩
                go_simp
                with_reducible rfl
               rotate_left
               ·simp only [pL]
                rfl
               refine gK (i:=12) (N:=some 67) (v:= ?_) (a':= ?_) #[true,true,true,true,false,true,true,true,true,true,true,true,true,true,true,false,true,false,true,false,true,true,false,true,true,true,false,false,false,false] rfl rfl (dn az.out dW.out (by kernel_rfl)) (fun _ _ _ h=>h) (Or.inl ⟨by rfl, ?_⟩) hHeld ?_ ?_
               rotate_left
               ·rintro w' ⟨s0,s1,s2⟩
                go_simp
                with_reducible rfl
               rotate_left
               ·simp only [pL]
                rfl
               refine gK (i:=15) (N:=some 70) (v:= ?_) (a':= ?_) #[true,true,true,true,false,true,true,true,true,true,true,true,true,true,true,true,true,false,true,false,true,true,false,true,true,true,false,false,false,false] rfl rfl (dn az.out dW.out (by kernel_rfl)) (fun _ _ _ h=>h) (Or.inl ⟨by rfl, ?_⟩) hHeld ?_ ?_
               rotate_left
               ·rintro w' ⟨s0,s1,s2⟩
                go_simp
                with_reducible rfl
               rotate_left
               ·simp only [pL]
                rfl
               refine oz 4 (some 59) az (fun K hK=> ?_);refine gG Try.func64 #[.slice (some nu) l0.length c0,.int .i64 4] ?_
               with_reducible refine (aX.calls _ _ l0 4 ym _ ?aG ?aH A26.out).mono ?_
               (case aG=>exact Kd.aU gh.out (bz HB))
               (case aH=>exact jC.out)
               rintro e w' ⟨rfl,⟨nd,rfl⟩⟩;refine ⟨_,rfl, ?_⟩;refine hK.out _ _ ⟨((HB.out.cell (dA w _ f6)).trans f6),((HB.out.cell (dA w _ f8)).trans f8),((HB.out.cell (dA w _ f9)).trans f9)⟩ (fun hHeld=> ?_);clear hK K;refine nz 59 ?_;refine oz 17 (some 72) az (fun K hK=> ?_);refine gG Try.func81 #[.slice (some nu) l0.length c0,.int .i64 12] ?_
               with_reducible refine (dL.calls _ _ l0 12 AR _ ?aG ?aH A29.out).mono ?_
               (case aG=>exact Kd.aU gh.out (bz HB))
               (case aH=>exact jC.out)
               rintro e w' ⟨rfl,⟨nd,rfl⟩⟩;refine ⟨_,rfl, ?_⟩;refine hK.out _ _ ⟨((HB.out.cell (dA w _ f6)).trans f6),((HB.out.cell (dA w _ f8)).trans f8),((HB.out.cell (dA w _ f9)).trans f9)⟩ (fun hHeld=> ?_);clear hK K;refine nz 72 ?_;refine oz 19 (some 74) az (fun K hK=> ?_);refine gG Try.func81 #[.slice (some nu) l0.length c0,.int .i64 16] ?_
               with_reducible refine (dL.calls _ _ l0 16 BK _ ?aG ?aH wE.out).mono ?_
               (case aG=>exact Kd.aU gh.out (bz HB))
               (case aH=>exact jC.out)
               rintro e w' ⟨rfl,⟨nd,rfl⟩⟩;refine ⟨_,rfl, ?_⟩;refine hK.out _ _ ⟨((HB.out.cell (dA w _ f6)).trans f6),((HB.out.cell (dA w _ f8)).trans f8),((HB.out.cell (dA w _ f9)).trans f9)⟩ (fun hHeld=> ?_);clear hK K;refine nz 74 ?_;refine oz 22 (some 77) az (fun K hK=> ?_);refine kF Try.func65 (by kernel_rfl) rfl #[.slice (some nu) l0.length c0,.int .i64 20,.int .i64 (rf)] (by rfl) rfl rfl (by (try simp only [List.map_toArray,List.map_cons,List.map_nil]);first|done|(simp only [zX];rfl)|rfl|(simp only [List.length_drop,List.length_take];rfl)|(go_simp;done)|(simp [Act.eval,IntKind.signed];done)|(simp [Act.eval,IntKind.signed];rfl)) ?_
               with_reducible refine (ew.calls _ _ l0 20 (rf) DQ _ ?aG ?aH A31.out).mono ?_
               (case aG=>exact Kd.aU gh.out (bz HB))
               (case aH=>exact jC.out)
               rintro e TZ ⟨Avn,rfl,gE,hb⟩;refine ⟨_,rfl, ?_⟩;have aJ:=aa.mk (Kd.bP gE (af (bz HB)));have aQ:=aa.mk (bn (kz dP) hb);have bt:=aa.mk (aq (bz HB) hb);clear dP;clear HB;have Fp:=aJ;have dP:=aQ;have HB:=bt;clear aJ aQ bt
               (try clear hb)
               (try clear hb2)
               (try clear hk)
               (try clear hi)
               (try clear gE)
               refine hK.out _ _ ⟨((HB.out.cell (dA w _ f6)).trans f6),((HB.out.cell (dA w _ f8)).trans f8),((HB.out.cell (dA w _ f9)).trans f9)⟩ (fun hHeld=> ?_);clear hK K;refine nz 77 ?_;refine oz 26 (some 81) az (fun K hK=> ?_);refine kF Try.func65 (by kernel_rfl) rfl #[.slice (some nu) l0.length c0,.int .i64 (rf),.int .i64 (wrap64 (sU))] (by rfl) rfl rfl (by (try simp only [List.map_toArray,List.map_cons,List.map_nil]);first|done|(simp only [zX];rfl)|rfl|(simp only [List.length_drop,List.length_take];rfl)|(go_simp;done)|(simp [Act.eval,IntKind.signed];done)|(simp [Act.eval,IntKind.signed];rfl)) ?_
               with_reducible refine (ew.calls _ _ l0 (rf) (wrap64 (sU)) EA _ ?aG ?aH A32.out).mono ?_
               (case aG=>exact Kd.aU gh.out (bz HB))
               (case aH=>exact jC.out)
               rintro e w37 ⟨Avo,rfl,gE,hb⟩;refine ⟨_,rfl, ?_⟩;have aJ:=aa.mk (Kd.mU (Kd.rz Fp) (Kd.kf gE) hb);have aQ:=aa.mk (Kd.bP (Kd.ry gE (Kd.oL (Kd.rz Fp))) (af (bz HB)));have bt:=aa.mk (bn (kz dP) hb);have cr:=aa.mk (aq (bz HB) hb);clear Fp;clear dP;clear HB;have Fp:=aJ;have Yg:=aQ;have dP:=bt;have HB:=cr;clear aJ aQ bt cr
               (try clear hb)
               (try clear hb2)
               (try clear hk)
               (try clear hi)
               (try clear gE)
               obtain ⟨Ab8,Ab9,Aht⟩:=Kd.da Yg.out
               (first|subst Aht|(injection Aht with mY rD mZ;have rE:=mY.symm;have rF:=mZ.symm;clear mY rD mZ;subst rE;subst rF))
               obtain ⟨GG,zR,Ln⟩:=Kd.da Fp.out
               (first|subst Ln|(injection Ln with mY rD mZ;have rE:=mY.symm;have rF:=mZ.symm;clear mY rD mZ;subst rE;subst rF))
               refine hK.out _ _ ⟨((HB.out.cell (dA w _ f6)).trans f6),((HB.out.cell (dA w _ f8)).trans f8),((HB.out.cell (dA w _ f9)).trans f9)⟩ (fun hHeld=> ?_);clear hK K;refine nz 81 ?_;refine pz 27 82 az ?_;refine oz 28 (none) az (fun K hK=> ?_);have Ar1:=rC dP.out;have Aoj:=ae dP.out;refine wJ (w1:= ?_) (by rfl) rfl ?_ ?_
               rotate_left
               ·go_simp
                rfl
               refine hK.out _ _ ⟨((cell_far (p:=⟨ek,_,none⟩) (by first|exact eD f6 fT.out|exact eE f6 fT.out) _).trans (((cell_far (p:=⟨ek,_,none⟩) (by first|exact eD f6 fT.out|exact eE f6 fT.out) _).trans (((cell_far (p:=⟨ek,_,none⟩) (by first|exact eD f6 fT.out|exact eE f6 fT.out) _).trans (((cell_far (p:=⟨ek,_,none⟩) (by first|exact eD f6 fT.out|exact eE f6 fT.out) _).trans (((cell_far (p:=⟨ek,_,none⟩) (by first|exact eD f6 fT.out|exact eE f6 fT.out) _).trans (((cell_far (p:=⟨ek,_,none⟩) (by first|exact eD f6 fT.out|exact eE f6 fT.out) _).trans (((cell_far (p:=⟨ek,_,none⟩) (by first|exact eD f6 fT.out|exact eE f6 fT.out) _).trans (((cell_far (p:=⟨ek,_,none⟩) (by first|exact eD f6 fT.out|exact eE f6 fT.out) _).trans (((cell_far (p:=⟨ek,_,none⟩) (by first|exact eD f6 fT.out|exact eE f6 fT.out) _).trans (((cell_far (p:=⟨ek,_,none⟩) (by first|exact eD f6 fT.out|exact eE f6 fT.out) _).trans (hHeld.1)))))))))))))))))))),((cell_far (p:=⟨ek,_,none⟩) (by first|exact eD f8 fT.out|exact eE f8 fT.out) _).trans (((cell_far (p:=⟨ek,_,none⟩) (by first|exact eD f8 fT.out|exact eE f8 fT.out) _).trans (((cell_far (p:=⟨ek,_,none⟩) (by first|exact eD f8 fT.out|exact eE f8 fT.out) _).trans (((cell_far (p:=⟨ek,_,none⟩) (by first|exact eD f8 fT.out|exact eE f8 fT.out) _).trans (((cell_far (p:=⟨ek,_,none⟩) (by first|exact eD f8 fT.out|exact eE f8 fT.out) _).trans (((cell_far (p:=⟨ek,_,none⟩) (by first|exact eD f8 fT.out|exact eE f8 fT.out) _).trans (((cell_far (p:=⟨ek,_,none⟩) (by first|exact eD f8 fT.out|exact eE f8 fT.out) _).trans (((cell_far (p:=⟨ek,_,none⟩) (by first|exact eD f8 fT.out|exact eE f8 fT.out) _).trans (((cell_far (p:=⟨ek,_,none⟩) (by first|exact eD f8 fT.out|exact eE f8 fT.out) _).trans (((cell_far (p:=⟨ek,_,none⟩) (by first|exact eD f8 fT.out|exact eE f8 fT.out) _).trans (hHeld.2.1)))))))))))))))))))),((cell_far (p:=⟨ek,_,none⟩) (by first|exact eD f9 fT.out|exact eE f9 fT.out) _).trans (((cell_far (p:=⟨ek,_,none⟩) (by first|exact eD f9 fT.out|exact eE f9 fT.out) _).trans (((cell_far (p:=⟨ek,_,none⟩) (by first|exact eD f9 fT.out|exact eE f9 fT.out) _).trans (((cell_far (p:=⟨ek,_,none⟩) (by first|exact eD f9 fT.out|exact eE f9 fT.out) _).trans (((cell_far (p:=⟨ek,_,none⟩) (by first|exact eD f9 fT.out|exact eE f9 fT.out) _).trans (((cell_far (p:=⟨ek,_,none⟩) (by first|exact eD f9 fT.out|exact eE f9 fT.out) _).trans (((cell_far (p:=⟨ek,_,none⟩) (by first|exact eD f9 fT.out|exact eE f9 fT.out) _).trans (((cell_far (p:=⟨ek,_,none⟩) (by first|exact eD f9 fT.out|exact eE f9 fT.out) _).trans (((cell_far (p:=⟨ek,_,none⟩) (by first|exact eD f9 fT.out|exact eE f9 fT.out) _).trans (((cell_far (p:=⟨ek,_,none⟩) (by first|exact eD f9 fT.out|exact eE f9 fT.out) _).trans (hHeld.2.2))))))))))))))))))))⟩ (fun hHeld=> ?_)
               clear hK K;refine pz 29 3 az ?_;refine dz az ?_
               try go_wp2
               refine bodyPost_ret (fC rfl _ _ ek 73 #[.int .u8 (rd l0 1),.int .u8 (rd l0 8),.int .u8 (rd l0 9),.int .u16 ym,.int .u8 ((rJ / 8192) % 256),.int .u16 (Go.bits .and .u16 rJ 8191),.int .u32 AR,.int .u32 BK,.slice GG DQ.length zR,.slice Ab8 EA.length Ab9] (0,0) _ rfl (by (with_reducible repeat (first|refine aN ?_ _|refine aK ?_|refine aM ?_ _));refine bM (cs:= #[.int .u8 (rd l0 1),.int .u8 (rd l0 8),.int .u8 (rd l0 9),.int .u16 ym,.int .u8 ((rJ / 8192) % 256),.int .u16 (Go.bits .and .u16 rJ 8191),.int .u32 AR,.int .u32 BK,.slice GG DQ.length zR,.slice none 0 0]) ?_ 9 _ rfl;(with_reducible repeat (first|refine aN ?_ _|refine aK ?_|refine aM ?_ _));refine bM (cs:= #[.int .u8 (rd l0 1),.int .u8 (rd l0 8),.int .u8 (rd l0 9),.int .u16 ym,.int .u8 ((rJ / 8192) % 256),.int .u16 (Go.bits .and .u16 rJ 8191),.int .u32 AR,.int .u32 BK,.slice none 0 0,.slice none 0 0]) ?_ 8 _ rfl;(with_reducible repeat (first|refine aN ?_ _|refine aK ?_|refine aM ?_ _));refine bM (cs:= #[.int .u8 (rd l0 1),.int .u8 (rd l0 8),.int .u8 (rd l0 9),.int .u16 ym,.int .u8 ((rJ / 8192) % 256),.int .u16 (Go.bits .and .u16 rJ 8191),.int .u32 AR,.int .u32 0,.slice none 0 0,.slice none 0 0]) ?_ 7 _ rfl;(with_reducible repeat (first|refine aN ?_ _|refine aK ?_|refine aM ?_ _));refine bM (cs:= #[.int .u8 (rd l0 1),.int .u8 (rd l0 8),.int .u8 (rd l0 9),.int .u16 ym,.int .u8 ((rJ / 8192) % 256),.int .u16 (Go.bits .and .u16 rJ 8191),.int .u32 0,.int .u32 0,.slice none 0 0,.slice none 0 0]) ?_ 6 _ rfl;(with_reducible repeat (first|refine aN ?_ _|refine aK ?_|refine aM ?_ _));refine bM (cs:= #[.int .u8 (rd l0 1),.int .u8 (rd l0 8),.int .u8 (rd l0 9),.int .u16 ym,.int .u8 ((rJ / 8192) % 256),.int .u16 0,.int .u32 0,.int .u32 0,.slice none 0 0,.slice none 0 0]) ?_ 5 _ rfl;(with_reducible repeat (first|refine aN ?_ _|refine aK ?_|refine aM ?_ _));refine bM (cs:= #[.int .u8 (rd l0 1),.int .u8 (rd l0 8),.int .u8 (rd l0 9),.int .u16 ym,.int .u8 0,.int .u16 0,.int .u32 0,.int .u32 0,.slice none 0 0,.slice none 0 0]) ?_ 4 _ rfl;(with_reducible repeat (first|refine aN ?_ _|refine aK ?_|refine aM ?_ _));refine bM (cs:= #[.int .u8 (rd l0 1),.int .u8 (rd l0 8),.int .u8 (rd l0 9),.int .u16 0,.int .u8 0,.int .u16 0,.int .u32 0,.int .u32 0,.slice none 0 0,.slice none 0 0]) ?_ 3 _ rfl;(with_reducible repeat (first|refine aN ?_ _|refine aK ?_|refine aM ?_ _));refine bM (cs:= #[.int .u8 (rd l0 1),.int .u8 (rd l0 8),.int .u8 0,.int .u16 0,.int .u8 0,.int .u16 0,.int .u32 0,.int .u32 0,.slice none 0 0,.slice none 0 0]) ?_ 2 _ rfl;(with_reducible repeat (first|refine aN ?_ _|refine aK ?_|refine aM ?_ _));refine bM (cs:= #[.int .u8 (rd l0 1),.int .u8 0,.int .u8 0,.int .u16 0,.int .u8 0,.int .u16 0,.int .u32 0,.int .u32 0,.slice none 0 0,.slice none 0 0]) ?_ 1 _ rfl;(with_reducible repeat (first|refine aN ?_ _|refine aK ?_|refine aM ?_ _));refine bM (cs:= #[.int .u8 0,.int .u8 0,.int .u8 0,.int .u16 0,.int .u8 0,.int .u16 0,.int .u32 0,.int .u32 0,.slice none 0 0,.slice none 0 0]) ?_ 0 _ rfl;(with_reducible repeat (first|refine aN ?_ _|refine aK ?_|refine aM ?_ _));exact dP.out) Try.underlying73 rfl (by kernel_rfl)) rfl ?_
               exact ⟨_,_,by first|rfl|(simp [aj,ak]<;>rfl)|(simp only [<- zX];first|rfl|(simp [aj,ak]<;>rfl))|(simp [*,aj,ak]<;>rfl),by (with_reducible repeat (first|apply Kd.eX|apply Kd.eT|apply Kd.eY));exact Kd.dm (Kd.eF (p:=⟨ek,9,none⟩) (Kd.eF (p:=⟨ek,8,none⟩) (Kd.eF (p:=⟨ek,7,none⟩) (Kd.eF (p:=⟨ek,6,none⟩) (Kd.eF (p:=⟨ek,5,none⟩) (Kd.eF (p:=⟨ek,4,none⟩) (Kd.eF (p:=⟨ek,3,none⟩) (Kd.eF (p:=⟨ek,2,none⟩) (Kd.eF (p:=⟨ek,1,none⟩) (Kd.eF (p:=⟨ek,0,none⟩) (Kd.mL Fp.out dP.out (by decide)) (fun _ hk=>hk.2) (.int .u8 (rd l0 1))) (fun _ hk=>hk.2) (.int .u8 (rd l0 8))) (fun _ hk=>hk.2) (.int .u8 (rd l0 9))) (fun _ hk=>hk.2) (.int .u16 ym)) (fun _ hk=>hk.2) (.int .u8 ((rJ / 8192) % 256))) (fun _ hk=>hk.2) (.int .u16 (Go.bits .and .u16 rJ 8191))) (fun _ hk=>hk.2) (.int .u32 AR)) (fun _ hk=>hk.2) (.int .u32 BK)) (fun _ hk=>hk.2) (.slice GG DQ.length zR)) (fun _ hk=>hk.2) (.slice Ab8 EA.length Ab9)) (fun _ hk=>hk.1.2),by (with_reducible repeat (first|apply Kd.eX|apply Kd.eT|apply Kd.eY));exact Kd.dm (Kd.eF (p:=⟨ek,9,none⟩) (Kd.eF (p:=⟨ek,8,none⟩) (Kd.eF (p:=⟨ek,7,none⟩) (Kd.eF (p:=⟨ek,6,none⟩) (Kd.eF (p:=⟨ek,5,none⟩) (Kd.eF (p:=⟨ek,4,none⟩) (Kd.eF (p:=⟨ek,3,none⟩) (Kd.eF (p:=⟨ek,2,none⟩) (Kd.eF (p:=⟨ek,1,none⟩) (Kd.eF (p:=⟨ek,0,none⟩) (Kd.mL Yg.out dP.out (by decide)) (fun _ hk=>hk.2) (.int .u8 (rd l0 1))) (fun _ hk=>hk.2) (.int .u8 (rd l0 8))) (fun _ hk=>hk.2) (.int .u8 (rd l0 9))) (fun _ hk=>hk.2) (.int .u16 ym)) (fun _ hk=>hk.2) (.int .u8 ((rJ / 8192) % 256))) (fun _ hk=>hk.2) (.int .u16 (Go.bits .and .u16 rJ 8191))) (fun _ hk=>hk.2) (.int .u32 AR)) (fun _ hk=>hk.2) (.int .u32 BK)) (fun _ hk=>hk.2) (.slice GG DQ.length zR)) (fun _ hk=>hk.2) (.slice Ab8 EA.length Ab9)) (fun _ hk=>hk.1.2),bz HB⟩
              ·rw [ax c28] at H
               cases H
             ·rw [ax Tb] at H
              cases H
            ·rw [ax MF] at H
             cases H
           ·rw [ax Ix] at H
            have Qi:(AQ==65535)=false:=fc Ix;have Wx:(AQ !=65535)=true:=lA Ix;simp only [Option.some.injEq,Prod.mk.injEq] at H
            obtain ⟨rfl,rfl,rfl,rfl,rfl,rfl,rfl,rfl,rfl,rfl,rfl⟩:=H;obtain ⟨Avp,Yh,_,Yi,_⟩:=info_parts gB;obtain ⟨Aok,Ahu,Ahv⟩:=oK (P:=Try.prog) (Value.int .u8) 0 23 5 .i64 Try.underlying23 Yh Yi (some nu) c0 l0 (rf) gD gD jC.out;have SU:=aa.mk (Kd.dD (h1:=fun _=>rfl) (Ahu _ (Kd.dc gh.out)));have SV:=aa.mk Ahv;clear Ahu Ahv Yh Yi
            go_wp2_with (first|((with_reducible refine ay (f:=80) rfl ?_);refine tQ (some 49) rfl rfl Try.func80 (by kernel_rfl) rfl #[.int .u32 0,.slice (some nu) (l0.take ((rf):Int).toNat).length c0] rfl (by (try simp only [List.map_toArray,List.map_cons,List.map_nil]);first|done|(rw [show (l0.take ((rf):Int).toNat).length=(rf).toNat from (by rw [List.length_take];have h_:((rf):Int)<=(l0.length:Int):=gD;omega)]<;>rfl)|(simp only [zX];rfl)|rfl|(simp only [List.length_drop,List.length_take];rfl)|(go_simp;done)|(simp [Act.eval,IntKind.signed];done)|(simp [Act.eval,IntKind.signed];rfl)) ?_;(with_reducible refine (bZ.calls J2 0 _ _ (l0.take ((rf):Int).toNat) BJ _ ?aG ?aH A21.out).mono ?_);(case aG=>exact Kd.aU SU.out (bz HB));(case aH=>exact SV.out);rintro e LU ⟨rfl,hb⟩;refine ⟨_,rfl, ?_⟩;have aJ:=aa.mk (bn (kz dP) hb);have aQ:=aa.mk (aq (bz HB) hb);clear dP;clear HB;have dP:=aJ;have HB:=aQ;clear aJ aQ;(try clear hb);(try clear hb2);(try clear hk);(try clear hi))|((with_reducible refine ay (f:=79) rfl ?_);refine gL 50 Try.func79 #[.int .u32 BJ] ?_;(with_reducible refine (bO.calls J2 BJ AQ _ A22.out).mono ?_);rintro e w' ⟨rfl,⟨nd,rfl⟩⟩;refine ⟨_,rfl, ?_⟩;(try (rw [fg LU];generalize j5:World.drewN LU _=LU;have aJ:aa (LU.heap[ek]?=some (.cells #[.int .u8 0,.int .u8 0,.int .u8 0,.int .u16 0,.int .u8 0,.int .u16 0,.int .u32 0,.int .u32 0,.slice none 0 0,.slice none 0 0] 73 (0,0))):=⟨by rw [<- j5];exact (kz dP)⟩;have aQ:aa (Below w.heap.size w LU):=⟨by rw [<- j5];exact bz HB⟩;clear dP HB j5;have dP:=aJ;have HB:=aQ;clear aJ aQ));have Aka:LU.cell? ⟨ek,0,none⟩=some (.int .u8 0):=cz dP.out 0 rfl;have Akb:LU.cell? ⟨ek,1,none⟩=some (.int .u8 0):=cz dP.out 1 rfl;have Akc:LU.cell? ⟨ek,2,none⟩=some (.int .u8 0):=cz dP.out 2 rfl;have Akd:LU.cell? ⟨ek,3,none⟩=some (.int .u16 0):=cz dP.out 3 rfl;have Ake:LU.cell? ⟨ek,4,none⟩=some (.int .u8 0):=cz dP.out 4 rfl;have Akf:LU.cell? ⟨ek,5,none⟩=some (.int .u16 0):=cz dP.out 5 rfl;have Akg:LU.cell? ⟨ek,6,none⟩=some (.int .u32 0):=cz dP.out 6 rfl;have Akh:LU.cell? ⟨ek,7,none⟩=some (.int .u32 0):=cz dP.out 7 rfl;have Aki:LU.cell? ⟨ek,8,none⟩=some (.slice none 0 0):=cz dP.out 8 rfl;have Akj:LU.cell? ⟨ek,9,none⟩=some (.slice none 0 0):=cz dP.out 9 rfl;have Akk:=ae dP.out 0;have Akl:=ae dP.out 1;have Akm:=ae dP.out 2;have Akn:=ae dP.out 3;have Ako:=ae dP.out 4;have Akp:=ae dP.out 5;have Akq:=ae dP.out 6;have Akr:=ae dP.out 7;have Aks:=ae dP.out 8;have Akt:=ae dP.out 9))
            refine bodyPost_ret (fC rfl _ _ ek 73 #[.int .u8 0,.int .u8 0,.int .u8 0,.int .u16 0,.int .u8 0,.int .u16 0,.int .u32 0,.int .u32 0,.slice none 0 0,.slice none 0 0] (0,0) _ rfl (by (repeat (first|with_reducible refine aN ?_ _|with_reducible refine aK ?_|with_reducible refine aM ?_ _|refine bM (cs:= #[.int .u8 0,.int .u8 0,.int .u8 0,.int .u16 0,.int .u8 0,.int .u16 0,.int .u32 0,.int .u32 0,.slice none 0 0,.slice none 0 0]) ?_ _ _ rfl));(with_reducible repeat (first|refine aN ?_ _|refine aK ?_|refine aM ?_ _));exact dP.out) Try.underlying73 rfl (by kernel_rfl)) rfl ?_
            exact ⟨_,_,by first|rfl|(simp [aj,ak]<;>rfl)|(simp only [<- zX];first|rfl|(simp [aj,ak]<;>rfl))|(simp [*,aj,ak]<;>rfl),by first|exact Kd.cl _ _ _ _ _|exact Kd.ju _ _ _ _ _|exact Kd.jv _ _ _ _ _|exact Kd.jr _ _ _ _ _|exact Kd.js _ _ _ _ _,by first|exact Kd.cl _ _ _ _ _|exact Kd.ju _ _ _ _ _|exact Kd.jv _ _ _ _ _|exact Kd.jr _ _ _ _ _|exact Kd.js _ _ _ _ _,bz HB⟩
          ·rw [ax Lb] at H
           cases H
         ·rw [ax Aj] at H
          cases H
  ·rw [ax c5] at H
   cases H
end Go.Proofs.Ytkmimamminddiaa.PB
namespace Go.Proofs.Ytkmimamminddiaa.Pure
open Go.RowKit Go.Proofs.Ytkmimamminddiaa.PB Go.Proofs.ai.bX Go.Proofs.ai.dh
open Go.Proofs.Ytkmimamminddiaa.Spec Go.Proofs.Ytkmimamminddiaa.j8 Go.Proofs.Ytkmimamminddiaa.oo
theorem Cl {l:List Int} (h:gU l) (i:Nat) (hi:i+2<=l.length) (hl:l.length<=1000000000):dw.f l (i:Int)=some (jQ l i):=iC h i hi hl
theorem J3 {l:List Int} (h:gU l) (i:Nat) (hi:i+4<=l.length) (hl:l.length<=1000000000):jg.f l (i:Int)=some (sy l i):=q8 h i hi hl
theorem Fq (l:List Int) (hl:l.length<=1000000000):iw.f l=some l:=by
 unfold iw.f;rw [au (by omega)]
theorem DT {c:Prop} [Decidable c] (h:c) (e:Int):dY.f (decide c) e=some ():=by
 unfold dY.f;rw [bS h,au rfl]
theorem Yj (i:Nat) (hi:i<=16) {x:Int} (h₀:0<=x) (h₁:x<=65535):Go.bits .and .u16 x (2 ^ i - 1)=x % 2 ^ i:=bits_mask .u16 16 (by decide) AJ i hi x h₀ (by omega)
def dV (l:List Int):Int:=4*(l.getD 0 0 % 16)
theorem nR (l:List Int):0<=dV l /\ dV l<=60:=by unfold dV;omega
theorem DU {l:List Int} (h:gU l):wrap64 (4*(wrap64 (Go.bits .and .u8 (rd l 0) 15)))=dV l:=by
 have hg:=h.getD 0;have ea:Go.bits .and .u8 (rd l 0) 15=l.getD 0 0 % 16:=by rw [ia l 0 0 rfl];exact St 4 (by omega) hg.1 hg.2
 rw [ea,cj (n:=l.getD 0 0 % 16) (by omega) (by omega),cj (by omega) (by omega)]
 rfl
theorem Fs {l:List Int} (h:gU l):wrap64 ((wrap64 (Go.bits .and .u8 (rd l 0) 15))*4)=dV l:=by
 have hg:=h.getD 0;have ea:Go.bits .and .u8 (rd l 0) 15=l.getD 0 0 % 16:=by rw [ia l 0 0 rfl];exact St 4 (by omega) hg.1 hg.2
 rw [ea,cj (n:=l.getD 0 0 % 16) (by omega) (by omega),cj (by omega) (by omega)];unfold dV;omega
def DV (l:List Int):Int:=norm (oT (words (l.take (dV l).toNat)))
def LV (l:List Int):Prop:=¬ (l.getD 0 0 / 16=4 /\ dV l>=20 /\ jQ l 2>=dV l)
instance (l:List Int):Decidable (LV l):=inferInstanceAs (Decidable (¬ _))
def Aca (l:List Int):Int×Int×Int×Int×Int×Int×Int×Int×List Int×List Int:=
 (l.getD 1 0,l.getD 8 0,l.getD 9 0,jQ l 4,jQ l 6 / 8192,jQ l 6 % 8192,sy l 12,sy l 16,(l.take (dV l).toNat).drop 20,(l.take (jQ l 2).toNat).drop (dV l).toNat)
def LW (l:List Int):Int×Int×Int×Int×Int×Int×Int×Int×List Int×List Int×Int:=
 if l.length<20 then (0,0,0,0,0,0,0,0,[],[],20) else if LV l then (0,0,0,0,0,0,0,0,[],[],21) else if (l.length:Int)<jQ l 2 then (0,0,0,0,0,0,0,0,[],[],20) else if DV l≠65535 then (0,0,0,0,0,0,0,0,[],[],22) else
 (l.getD 1 0,l.getD 8 0,l.getD 9 0,jQ l 4,jQ l 6 / 8192,jQ l 6 % 8192,sy l 12,sy l 16,(l.take (dV l).toNat).drop 20,(l.take (jQ l 2).toNat).drop (dV l).toNat,0)
theorem OT {l:List Int} (h:gU l) (hl:l.length<=1000000000) (k:Nat) (hk:l.length+4<k):((gF.f k 0 l).bind fun a=>eB.f k a)=some (norm (oT (words l))):=by
 have hr:=l6 (words l) 0 (by omega) (by omega) (fO l h);have hn:=nZ (words l) 0 (by omega) (by omega) (fO l h);rw [add_eq 0 l h hl (by omega) (by omega) k (by omega),bA,fold_eq _ hr.1 hr.2 k (by omega),hn,Int.zero_add]
theorem Ft {l:List Int} (h:gU l) (hl:l.length<=1000000000) (k:Nat) (hk:l.length+4<k):∃ a,gF.f k 0 l=some a /\ eB.f k a=some (norm (oT (words l))):=cZ (OT h hl k hk)
theorem LX {l:List Int} (h:gU l) (hl:l.length<=1000000000) (k:Nat) (hk:l.length+4<k):∃ a,bZ.f k 0 l=some a /\ bO.f k a=some (norm (oT (words l))):=by
 have hr:=l6 (words l) 0 (by omega) (by omega) (fO l h);have hn:=nZ (words l) 0 (by omega) (by omega) (fO l h);refine ⟨_,xL 0 l h hl (by omega) (by omega) k (by omega), ?_⟩;rw [sN _ hr.1 hr.2 k (by omega),hn,Int.zero_add]
theorem LY {l:List Int} (h:gU l) (hl:l.length<=1000000000) (h20:20<=l.length) (ho:¬ LV l) (hs:¬ (l.length:Int)<jQ l 2) (hx:DV l=65535) (k:Nat) (hk:l.length+5<k):aY.f k l=some (Aca l):=by
 obtain ⟨k,rfl⟩:∃ j,k=j+1:=⟨k - 1,by omega⟩
 have hh:=nR l;have hg:=fP h 2;have hb6:=fP h 6;have ho':l.getD 0 0 / 16=4 /\ dV l>=20 /\ jQ l 2>=dV l:=Decidable.not_not.mp ho;obtain ⟨o1,o2,o3⟩:=ho';have p0:0<=dV l:=hh.1;have p1:dV l<=(l.length:Int):=by omega
 have p2:(0:Int)<(l.length:Int):=by omega
 have p3:(1:Int)<(l.length:Int):=by omega
 have p4:(8:Int)<(l.length:Int):=by omega
 have p5:(9:Int)<(l.length:Int):=by omega
 have p6:jQ l 2<=(l.length:Int):=by omega
 have p7:((l.take (dV l).toNat).drop 20).length<=1000000000:=by rw [List.length_drop,List.length_take];omega
 have p8:((l.take (jQ l 2).toNat).drop (dV l).toNat).length<=1000000000:=by rw [List.length_drop,List.length_take];omega
 have p9:(l.length:Int)>=20:=by omega
 have m1:dY.f (decide ((l.length:Int)>=20)) 20=some ():=DT p9 20;have m2:dY.f (decide (jQ l 2>=dV l)) 21=some ():=DT o3 21;have m3:dY.f (decide ((l.length:Int)>=jQ l 2)) 20=some ():=DT p6 20;have e2:=Cl h 2 (by omega) hl;have e4:=Cl h 4 (by omega) hl;have e6:=Cl h 6 (by omega) hl;have e12:=J3 h 12 (by omega) hl;have X4:=J3 h 16 (by omega) hl;rw [show ((2:Nat):Int)=2 from rfl] at e2
 rw [show ((4:Nat):Int)=4 from rfl] at e4
 rw [show ((6:Nat):Int)=6 from rfl] at e6
 rw [show ((12:Nat):Int)=12 from rfl] at e12
 rw [show ((16:Nat):Int)=16 from rfl] at X4
 have r0:rd l 0=l.getD 0 0:=ia l 0 0 rfl;have r1:rd l 1=l.getD 1 0:=ia l 1 1 rfl;have r8:rd l 8=l.getD 8 0:=ia l 8 8 rfl;have r9:rd l 9=l.getD 9 0:=ia l 9 9 rfl;have w2:wrap64 (jQ l 2)=jQ l 2:=cj (by omega) (by omega);have hd:=DU h;obtain ⟨a,fa,fb⟩:=Ft (h.take (dV l).toNat) (by rw [List.length_take];omega) k (by rw [List.length_take];omega);have fx:norm (oT (words (l.take (dV l).toNat)))=65535:=hx;rw [fx] at fb
 have m22:dY.f ((65535:Int)==65535) 22=some ():=by unfold dY.f;rw [au (by decide)]
 have ef:jQ l 6 / 8192 % 256=jQ l 6 / 8192:=by omega
 have ea:Go.bits .and .u16 (jQ l 6) 8191=jQ l 6 % 8192:=Yj 13 (by omega) hb6.1 hb6.2;unfold aY.f
 rw [m1,bA,au p2,e2,bA,hd,w2,r0,au o1,au o2,m2,bA,aY.j0,m3,bA,au p0,au p1,fa,bA,fb,bA,m22,bA,e6,bA,au p3,e4,bA,au p4,au p5,e12,bA,X4,bA,au o2,
  Fq _ p7,bA,au o3,au p6,Fq _ p8,bA,r1,r8,r9,ef,ea]
 rfl
theorem uH {l:List Int} (h:gU l) (hl:l.length<=1000000000) (k:Nat) (hk:l.length+5<k):cX.f k l=some (LW l):=by
 have hh:=nR l;have hg:=fP h 2;have hd:=DU h;have r0:rd l 0=l.getD 0 0:=ia l 0 0 rfl;unfold cX.f LW
 by_cases c1:l.length<20
 ·rw [au (by omega),au c1]
 ·have e2:=Cl h 2 (by omega) hl
  rw [show ((2:Nat):Int)=2 from rfl] at e2
  have w2:wrap64 (jQ l 2)=jQ l 2:=cj (by omega) (by omega);rw [ax (by omega),ax c1,e2,bA,hd,w2,r0]
  by_cases c2:LV l
  ·rw [ax c2,au c2]
  ·rw [au (Decidable.not_not.mp c2),ax c2]
   by_cases c3:(l.length:Int)<jQ l 2
   ·rw [au c3,au c3]
   ·rw [ax c3,ax c3]
    obtain ⟨a,fa,fb⟩:=Ft (h.take (dV l).toNat) (by rw [List.length_take];omega) k (by rw [List.length_take];omega);rw [fa,bA,fb,bA]
    by_cases c4:DV l=65535
    ·have fx:norm (oT (words (l.take (dV l).toNat)))=65535:=c4
     rw [au fx,ax (fun hne=>hne c4),LY h hl (by omega) c2 c3 c4 k hk,bA]
     rfl
    ·have fx:¬ norm (oT (words (l.take (dV l).toNat)))=65535:=c4
     rw [ax fx,au c4]
theorem qH {l:List Int} (h:gU l) (hl:l.length<=1000000000) (k:Nat) (hk:l.length+9<k):bB.f k l=some (LW l):=by
 obtain ⟨k,rfl⟩:∃ j,k=j+2:=⟨k - 2,by omega⟩
 have hh:=nR l;have hg:=fP h 2;have hb6:=fP h 6;have hd:=Fs h;have r0:rd l 0=l.getD 0 0:=ia l 0 0 rfl;unfold bB.f LW
 by_cases c1:l.length<20
 ·rw [au (by omega),au c1]
 ·have e2:=iC h 2 (by omega) hl
  rw [show ((2:Nat):Int)=2 from rfl] at e2
  have w2:wrap64 (jQ l 2)=jQ l 2:=cj (by omega) (by omega);rw [ax (by omega),ax c1,au (by omega),e2,bA,hd,w2,r0]
  by_cases c2:LV l
  ·rw [au c2]
   by_cases d1:l.getD 0 0 / 16=4
   ·rw [au d1]
    by_cases d2:dV l<20
    ·rw [au d2,bB.j0,au rfl]
    ·have d3:jQ l 2<dV l:=by
      refine Decidable.byContradiction fun hne=>c2 ⟨d1,by omega,by omega⟩
     rw [ax d2,bS d3,bB.j0,au rfl]
   ·rw [ax d1,bB.j0,au rfl]
  ·have ho':l.getD 0 0 / 16=4 /\ dV l>=20 /\ jQ l 2>=dV l:=Decidable.not_not.mp c2
   obtain ⟨o1,o2,o3⟩:=ho';rw [ax c2,au o1,ax (by omega),gO (by omega),bB.j0,ax (by decide)]
   by_cases c3:(l.length:Int)<jQ l 2
   ·rw [au c3]
    by_cases d4:(l.length:Int)<dV l
    ·rw [au d4,bB.j1,au rfl]
    ·rw [ax d4,bS c3,bB.j1,au rfl]
   ·rw [ax c3,ax (by omega),gO c3,bB.j1,ax (by decide),au (by omega),au (by omega)]
    obtain ⟨a,fa,fb⟩:=LX (h.take (dV l).toNat) (by rw [List.length_take];omega) k (by rw [List.length_take];omega);rw [fa,bA,fb,bA]
    by_cases c4:DV l=65535
    ·have fx:norm (oT (words (l.take (dV l).toNat)))=65535:=c4
     have e4:=iC h 4 (by omega) hl;have e6:=iC h 6 (by omega) hl;have e12:=q8 h 12 (by omega) hl;have X4:=q8 h 16 (by omega) hl;rw [show ((4:Nat):Int)=4 from rfl] at e4
     rw [show ((6:Nat):Int)=6 from rfl] at e6
     rw [show ((12:Nat):Int)=12 from rfl] at e12
     rw [show ((16:Nat):Int)=16 from rfl] at X4
     have r1:rd l 1=l.getD 1 0:=ia l 1 1 rfl;have r8:rd l 8=l.getD 8 0:=ia l 8 8 rfl;have r9:rd l 9=l.getD 9 0:=ia l 9 9 rfl;have f1:=AL l 20 (dV l).toNat (by omega) (by omega) hl;have f2:=AL l (dV l).toNat (jQ l 2).toNat (by omega) (by omega) hl;rw [show ((20:Nat):Int)=20 from rfl,Int.toNat_of_nonneg (by omega)] at f1
     rw [Int.toNat_of_nonneg (by omega),Int.toNat_of_nonneg (by omega)] at f2
     have ef:jQ l 6 / 8192 % 256=jQ l 6 / 8192:=by omega
     have ea:Go.bits .and .u16 (jQ l 6) 8191=jQ l 6 % 8192:=Yj 13 (by omega) hb6.1 hb6.2;rw [au fx,ax (fun hne=>hne c4),e6,bA,au (by omega),e4,bA,au (by omega),au (by omega),e12,bA,X4,bA,f1,bA,f2,bA,r1,r8,r9,ef,ea]
    ·have fx:¬ norm (oT (words (l.take (dV l).toNat)))=65535:=c4
     rw [ax fx,au c4]
theorem both {l:List Int} (h:gU l) (hl:l.length<=1000000000) (k:Nat) (hk:l.length+9<k):∃ s,cX.f k l=some s /\ bB.f k l=some s /\ s=LW l:=⟨_,uH h hl k (by omega),qH h hl k hk,rfl⟩
def J4 (a t pr i fl dM s d:Int) (o l:List Int) (x:Int):List Int:=[64+(20+(o.length:Int)) / 4,a,(20+(o.length:Int)+(l.length:Int)) / 256 % 256,(20+(o.length:Int)+(l.length:Int)) % 256,i / 256 % 256,i % 256,(fl*8192+dM) / 256 % 256,(fl*8192+dM) % 256,t,pr,x / 256 % 256,x % 256,s / 16777216 % 256,s / 65536 % 256,s / 256 % 256,s % 256,d / 16777216 % 256,d / 65536 % 256,d / 256 % 256,d % 256]
theorem qJ (a t pr i fl dM s d:Int) (o l:List Int) (x:Int):(J4 a t pr i fl dM s d o l x).length=20:=rfl
def SW (a t pr i fl dM s d:Int) (o l:List Int):Int:=ck (J4 a t pr i fl dM s d o l 0++o)
def f5 (a t pr i fl dM s d:Int) (o l:List Int):List Int:=J4 a t pr i fl dM s d o l (SW a t pr i fl dM s d o l)++o++l
def wk (fl dM:Int) (o:List Int):Prop:=(o.length:Int) % 4≠0 \/ (o.length:Int)>40 \/ fl>7 \/ dM>8191
instance (fl dM:Int) (o:List Int):Decidable (wk fl dM o):=inferInstanceAs (Decidable (_ \/ _))
def EB (a t pr i fl dM s d:Int) (o l:List Int):List Int×Int:=if wk fl dM o then ([],21) else if 20+(o.length:Int)+(l.length:Int)>65535 then ([],23) else (f5 a t pr i fl dM s d o l,0)
section
variable {a t pr i fl dM s d:Int} {o l:List Int}
theorem G8 (ha:0<=a /\ a<=255) (ht:0<=t /\ t<=255) (hp:0<=pr /\ pr<=255) (ho:(o.length:Int)<=40) (x:Int):gU (J4 a t pr i fl dM s d o l x):=by
 unfold J4
 repeat (first|exact .nil|refine .cons (by omega) ?_)
theorem LZ (ha:0<=a /\ a<=255) (ht:0<=t /\ t<=255) (hp:0<=pr /\ pr<=255) (ho:gU o) (xN:(o.length:Int)<=40) (hl:l.length<=1000000000) (k:Nat) (hk:100<=k) {H:List Int} (hH:H=J4 a t pr i fl dM s d o l 0):
  eM.l0 (k+1) H [s,d] 2 2 a t pr i fl dM s d o l=some (f5 a t pr i fl dM s d o l,0):=by
 subst hH;have hn:(J4 a t pr i fl dM s d o l 0++o).length=20+o.length:=by rw [List.length_append,qJ]
 have hset:((J4 a t pr i fl dM s d o l 0++o).set (10:Int).toNat (SW a t pr i fl dM s d o l / 256 % 256)).set (11:Int).toNat (SW a t pr i fl dM s d o l % 256)=J4 a t pr i fl dM s d o l (SW a t pr i fl dM s d o l)++o:=rfl;have SX:oq.f k (J4 a t pr i fl dM s d o l 0++o)=some (SW a t pr i fl dM s d o l):=of_eq _ ((G8 ha ht hp xN 0).append ho) (by rw [hn];omega) k (by rw [hn];omega) (by omega);have hn2:(J4 a t pr i fl dM s d o l (SW a t pr i fl dM s d o l)++o).length=20+o.length:=by rw [List.length_append,qJ]
 rw [eM.l0,ax (by omega),au (by rw [qJ];omega),bA,SX,bA,au (by rw [hn];omega),au (by rw [hn];omega),bA,hset,au (by rw [hn2];omega)]
 rfl
theorem ior (h4:(o.length:Int) % 4=0) (xN:(o.length:Int)<=40):Go.bits .or .u8 64 ((wrap64 (Int.tdiv (20+(o.length:Int)) 4)) % 256)=64+(20+(o.length:Int)) / 4:=by
 have e:(wrap64 (Int.tdiv (20+(o.length:Int)) 4)) % 256=(20+(o.length:Int)) / 4:=by
  rw [Int.tdiv_eq_ediv_of_nonneg (by omega),cj (by omega) (by omega)];omega
 rw [e];exact Ahc 6 (by omega) (by omega) (by omega) (by omega) (by omega) (by omega)
theorem Yk (hf:0<=fl /\ fl<=7) (ho:0<=dM /\ dM<=8191):Go.bits .or .u16 (IntKind.u16.wrap ((IntKind.u16.wrap fl)*8192)) dM=fl*8192+dM:=by
 rw [yN (n:=fl) (by omega) (by omega),yN (n:=fl*8192) (by omega) (by omega)];exact Su 13 (by omega) (by omega) (by omega) (by omega) (by omega) (by omega)
theorem qI (ha:0<=a /\ a<=255) (ht:0<=t /\ t<=255) (hp:0<=pr /\ pr<=255) (hf:0<=fl) (hg:0<=dM) (ho:gU o) (hol:o.length<=1000000000) (hl:l.length<=1000000000) (k:Nat) (hk:200<=k):eM.f k a t pr i fl dM s d o l=some (EB a t pr i fl dM s d o l):=by
 obtain ⟨k,rfl⟩:∃ j,k=j+5:=⟨k - 5,by omega⟩
 have w1:wrap64 (20+(o.length:Int))=20+(o.length:Int):=cj (by omega) (by omega);unfold eM.f;rw [w1]
 by_cases cw:wk fl dM o
 ·have hx:EB a t pr i fl dM s d o l=([],21):=by unfold EB;rw [au cw]
  rw [hx]
  by_cases c1:(o.length:Int) % 4=0
  ·rw [au c1]
   by_cases c2:(o.length:Int)>40
   ·rw [au c2,eM.j0,au rfl]
   ·rw [ax c2]
    by_cases c3:fl>7
    ·rw [au c3,eM.j0,au rfl]
    ·have c4:dM>8191:=by unfold wk at cw;omega
     rw [ax c3,bS c4,eM.j0,au rfl]
  ·rw [ax c1,eM.j0,au rfl]
 ·have cx:(o.length:Int) % 4=0 /\ (o.length:Int)<=40 /\ fl<=7 /\ dM<=8191:=by unfold wk at cw;omega
  obtain ⟨x1,x2,x3,x4⟩:=cx;have w2:wrap64 (65535 - (20+(o.length:Int)))=65535 - (20+(o.length:Int)):=cj (by omega) (by omega);rw [au x1,ax (by omega),ax (by omega),gO (by omega),eM.j0,ax (by decide),w2];unfold EB;rw [ax cw]
  by_cases c5:20+(o.length:Int)+(l.length:Int)>65535
  ·rw [au (by omega),au c5]
  ·rw [ax (by omega),ax c5,bA]
   have w3:wrap64 (20+(o.length:Int)+(l.length:Int))=20+(o.length:Int)+(l.length:Int):=cj (by omega) (by omega);have hlen:(([s,d]:List Int).length:Int)=2:=rfl;have r0:rd [s,d] 0=s:=rfl;have r1:rd [s,d] 1=d:=rfl;have n1:wrap64 (0+1)=1:=cj (by omega) (by omega);have n2:wrap64 (1+1)=2:=cj (by omega) (by omega);rw [ior x1 x2,Yk ⟨hf,x3⟩ ⟨hg,x4⟩,w3,hlen];rw [eM.l0,au (by omega),au (by omega),hlen,au (by omega),r0,bA,au (by simp),n1];rw [eM.l0,au (by omega),au (by omega),hlen,au (by omega),r1,bA,au (by simp),n2];exact LZ ha ht hp ho x2 hl _ (by omega) rfl
theorem DW (l:List Int) (x:Int) (h:l.length<=1000000000):bq.f l x=some (l++[x / 256 % 256,x % 256]):=by
 unfold bq.f;rw [bA,au (by simp;omega)]
theorem J5 (l:List Int) (x:Int) (h:l.length<=1000000000):dK.f l x=some (l++[x / 16777216 % 256,x / 65536 % 256,x / 256 % 256,x % 256]):=by
 unfold dK.f;rw [bA,au (by simp;omega)]
theorem J6 (ha:0<=a /\ a<=255) (ht:0<=t /\ t<=255) (hp:0<=pr /\ pr<=255) (ho:gU o) (xN:(o.length:Int)<=40) (hl:l.length<=1000000000) (k:Nat) (hk:100<=k) {y:List Int} (hy:y=J4 a t pr i fl dM s d o l 0++o):
  ((some (y:List Int)).bind fun VW=>((iK.f k VW).bind fun Ahy=>(if 10<(VW.length:Int) then (if 11<(VW.length:Int) then ((some ((VW.set (10:Int).toNat ((Ahy / 256) % 256)).set (11:Int).toNat ((Ahy) % 256):List Int)).bind fun Ahz=>(if Ahz.length+l.length<140737488355328 then (some ((Ahz++l),(0:Int))) else (none))) else (none)) else (none))))=some (f5 a t pr i fl dM s d o l,0):=by
 subst hy;have hn:(J4 a t pr i fl dM s d o l 0++o).length=20+o.length:=by rw [List.length_append,qJ]
 have hset:((J4 a t pr i fl dM s d o l 0++o).set (10:Int).toNat (SW a t pr i fl dM s d o l / 256 % 256)).set (11:Int).toNat (SW a t pr i fl dM s d o l % 256)=J4 a t pr i fl dM s d o l (SW a t pr i fl dM s d o l)++o:=rfl;have SX:iK.f k (J4 a t pr i fl dM s d o l 0++o)=some (SW a t pr i fl dM s d o l):=SF _ ((G8 ha ht hp xN 0).append ho) (by rw [hn];omega) k (by rw [hn];omega) (by omega);have hn2:(J4 a t pr i fl dM s d o l (SW a t pr i fl dM s d o l)++o).length=20+o.length:=by rw [List.length_append,qJ]
 rw [bA,SX,bA,au (by rw [hn];omega),au (by rw [hn];omega),bA,hset,au (by rw [hn2];omega)]
 rfl
theorem l9 (ha:0<=a /\ a<=255) (ht:0<=t /\ t<=255) (hp:0<=pr /\ pr<=255) (hf:0<=fl) (hg:0<=dM) (ho:gU o) (hol:o.length<=1000000000) (hl:l.length<=1000000000) (k:Nat) (hk:200<=k):aI.f k a t pr i fl dM s d o l=some (EB a t pr i fl dM s d o l):=by
 obtain ⟨k,rfl⟩:∃ j,k=j+1:=⟨k - 1,by omega⟩
 have w1:wrap64 (20+(o.length:Int))=20+(o.length:Int):=cj (by omega) (by omega);unfold aI.f
 by_cases cw:wk fl dM o
 ·have hx:EB a t pr i fl dM s d o l=([],21):=by unfold EB;rw [au cw]
  rw [hx]
  by_cases c1:(o.length:Int) % 4=0
  ·rw [au c1]
   by_cases c2:(o.length:Int)>40
   ·rw [au c2,aI.j0,au rfl]
   ·rw [ax c2]
    by_cases c3:fl>7
    ·rw [au c3,aI.j0,au rfl]
    ·have c4:dM>8191:=by unfold wk at cw;omega
     rw [ax c3,bS c4,aI.j0,au rfl]
  ·rw [ax c1,aI.j0,au rfl]
 ·have cx:(o.length:Int) % 4=0 /\ (o.length:Int)<=40 /\ fl<=7 /\ dM<=8191:=by unfold wk at cw;omega
  obtain ⟨x1,x2,x3,x4⟩:=cx;have w2:wrap64 (65535 - (20+(o.length:Int)))=65535 - (20+(o.length:Int)):=cj (by omega) (by omega);rw [au x1,ax (by omega),ax (by omega),gO (by omega),aI.j0,ax (by decide),w1,w2];unfold EB;rw [ax cw]
  by_cases c5:20+(o.length:Int)+(l.length:Int)>65535
  ·rw [au (by omega),au c5]
  ·rw [ax (by omega),ax c5]
   have w3:IntKind.u16.wrap (wrap64 (20+(o.length:Int)+(l.length:Int)))=20+(o.length:Int)+(l.length:Int):=by rw [cj (by omega) (by omega),yN (by omega) (by omega)]
   rw [ior x1 x2,Yk ⟨hf,x3⟩ ⟨hg,x4⟩,w3];rw [DW _ _ (by simp),bA,DW _ _ (by simp),bA,DW _ _ (by simp),bA,bA,au (by simp),J5 _ _ (by simp),bA,J5 _ _ (by simp),bA,au (by simp;omega)];exact J6 ha ht hp ho x2 hl k (by omega) (congrArg (· ++o) rfl)
theorem kQ (ha:0<=a /\ a<=255) (ht:0<=t /\ t<=255) (hp:0<=pr /\ pr<=255) (ho:gU o) (hl:gU l) (xN:(o.length:Int)<=40):gU (f5 a t pr i fl dM s d o l):=((G8 ha ht hp xN _).append ho).append hl
theorem iP:(f5 a t pr i fl dM s d o l).length=20+o.length+l.length:=by
 unfold f5;rw [List.length_append,List.length_append,qJ]
end
end Go.Proofs.Ytkmimamminddiaa.Pure
namespace Go.Proofs.Ytkmimamminddiaa.Pure
open Go.RowKit Go.Proofs.Ytkmimamminddiaa.PB Go.Proofs.ai.bX Go.Proofs.ai.dh
open Go.Proofs.Ytkmimamminddiaa.Spec Go.Proofs.Ytkmimamminddiaa.j8
theorem SY (op:BinOp) (x y:Int):0<=Go.bits op .u32 x y /\ Go.bits op .u32 x y<=4294967295:=by
 have h:∀ n:Int,0<=IntKind.u32.wrap n /\ IntKind.u32.wrap n<=4294967295:=fun n=>by
  show 0<=n % 4294967296 /\ n % 4294967296<=4294967295
  omega
 exact h _
theorem G9 (op:BinOp) (x y:Int):0<=Go.bits op .u8 x y /\ Go.bits op .u8 x y<=255:=by
 have h:∀ n:Int,0<=IntKind.u8.wrap n /\ IntKind.u8.wrap n<=255:=fun n=>by
  show 0<=n % 256 /\ n % 256<=255
  omega
 exact h _
def sB (x:Int):Prop:=0<=x /\ x<=4294967295
def uI (x:Int):Prop:=0<=x /\ x<=65535
def U8 (x:Int):Prop:=0<=x /\ x<=255
theorem OU (a b c d:Int):∃ r,cN.f a b c d=some r /\ sB r:=⟨_,rfl,SY _ _ _⟩
theorem n9 (a b c d:Int):∃ r,((cN.f a b c d).bind fun t=>some t)=some r /\ sB r:=OU a b c d
theorem J7 (a:Int):∃ r,lH.f a=some r /\ sB r:=by
 unfold lH.f
 split
 ·exact n9 _ _ _ _
 ·exact n9 _ _ _ _
theorem Yl (k:Nat) (x y:Int) (b:Bool):∃ r,bU.j1 (k+1) x y b=some r /\ sB r:=by
 rw [bU.j1]
 split
 ·exact n9 _ _ _ _
 ·split
  ·exact n9 _ _ _ _
  ·exact n9 _ _ _ _
theorem Ym (k:Nat) (x y:Int) (b:Bool):∃ r,bU.j0 (k+2) x y b=some r /\ sB r:=by
 rw [bU.j0]
 split
 ·exact n9 _ _ _ _
 ·split
  ·exact n9 _ _ _ _
  ·split
   ·exact n9 _ _ _ _
   ·split
    ·exact n9 _ _ _ _
    ·split
     ·exact Yl _ _ _ _
     ·exact Yl _ _ _ _
theorem wm (K:Nat) (hK:2<=K) (a b:Int):∃ r,bU.f K a b=some r /\ sB r:=by
 obtain ⟨k,rfl⟩:∃ j,K=j+2:=⟨K - 2,by omega⟩
 unfold bU.f
 split
 ·exact Ym _ _ _ _
 ·exact Ym _ _ _ _
theorem Fu (a:Int):∃ r,jd.f a=some r /\ uI r:=by
 have h:∀ n:Int,uI (IntKind.u16.wrap n):=fun n=>by
  show 0<=n % 65536 /\ n % 65536<=65535
  omega
 unfold jd.f
 split
 ·exact ⟨_,rfl,h _⟩
 ·split
  ·exact ⟨_,rfl,by unfold uI;omega⟩
  ·exact ⟨_,rfl,h _⟩
theorem DX (a:Int) (ha:0<=a):mz.f a=some (rd [17,6,1,17] (a.tmod 4)) /\ (rd [17,6,1,17] (a.tmod 4)=17 \/ rd [17,6,1,17] (a.tmod 4)=6 \/ rd [17,6,1,17] (a.tmod 4)=1):=by
 have h1:a.tmod 4<4:=Int.tmod_lt_of_pos _ (by decide);have h0:0<=a.tmod 4:=Int.tmod_nonneg _ ha
 constructor
 ·unfold mz.f
  rw [bA,au h0,au (show a.tmod 4<((([17,6,1,17]:List Int)).length:Int) from h1)]
 ·generalize a.tmod 4=i at h1 h0|-
  obtain rfl|rfl|rfl|rfl:i=0 \/ i=1 \/ i=2 \/ i=3:=by omega
  ·exact .inl rfl
  ·exact .inr (.inl rfl)
  ·exact .inr (.inr rfl)
  ·exact .inl rfl
def qc (n:Int):List Int:=qv.take (n.tmod 16).toNat
theorem VX:gU qv:=by
 intro x hx;simp only [qv,List.mem_cons,List.not_mem_nil,or_false] at hx
 omega
theorem Fv (n:Int):gU (qc n):=VX.take _
theorem Fw (n:Int):(qc n).length<=16:=by
 unfold qc;rw [List.length_take];have:qv.length=16:=rfl
 omega
def L0 (n:Int):List Int:=if Go.bits .and .u8 n 32=0 then [] else [1,1,1,0]
theorem Nn (n:Int):gU (L0 n) /\ ((L0 n).length:Int) % 4=0 /\ ((L0 n).length:Int)<=4:=by
 unfold L0
 split
 ·exact ⟨.nil,rfl,by decide⟩
 ·refine ⟨fun x hx=> ?_,rfl,by decide⟩
  simp only [List.mem_cons,List.not_mem_nil,or_false] at hx
  omega
def SZ (fl:Int):Int:=if Go.bits .and .u8 fl 1=0 then 8 else 0
def OV (fr n:Int):Int:=Go.bits .or .u32 (fr % 4294967296*65536 % 4294967296) (n % 4294967296)
def yB (pr a b fr tp fl n:Int):List Int:=
 if pr=17 then l8 fr tp (if Go.bits .and .u8 fl 64=0 then BI (pK a b fr tp (qc n)) else 0) (qc n)
 else if pr=6 then l7 fr tp (n % 4294967296) 0 (Go.bits .and .u8 fl 23) 9 (65535 - norm (tT a b (l7 fr tp (n % 4294967296) 0 (Go.bits .and .u8 fl 23) 9 0 0 (L0 n) (qc n)))) 0 (L0 n) (qc n)
 else iD.f5 (SZ fl) 0 (ck (iD.f5 (SZ fl) 0 0 (OV fr n) (qc n))) (OV fr n) (qc n)
theorem Acb (fl:Int):U8 (SZ fl):=by
 unfold SZ U8
 split<;>omega
theorem Np (K:Nat) (hK:4000<=K) {pr a b fr tp fl n:Int} (ha:sB a) (hb:sB b) (hf:uI fr) (ht:uI tp):mD.f K pr a b fr tp fl n=some (yB pr a b fr tp fl n):=by
 have hd:=Fv n;have hl:=Fw n;have ho:=Nn n;have hfl:=G9 .and fl 23;unfold mD.f yB
 by_cases rL:pr=17
 ·rw [au rL,au rL]
  by_cases c64:Go.bits .and .u8 fl 64=0
  ·rw [au c64,au c64]
   have e1:=JY (c:=0) ha hb hf ht hd (by omega) K hK;unfold qc at e1 hl|-
   rw [e1,bA,qG _ _ _ (by omega),ax (by omega)]
   rfl
  ·rw [ax c64,ax c64]
   unfold qc at hl|-
   rw [qG _ _ _ (by omega),ax (by omega)]
   rfl
 ·rw [ax rL,ax rL]
  by_cases c6:pr=6
  ·rw [au c6,au c6]
   have h2:∀ o:List Int,gU o ->((o.length:Int) % 4=0) ->((o.length:Int)<=4) ->((gT.f K a b fr tp (n % 4294967296) 0 (Go.bits .and .u8 fl 23) 9 0 0 o (qc n)).bind fun s=>(aD.f K fr tp (n % 4294967296) 0 (Go.bits .and .u8 fl 23) 9 s 0 o (qc n)).bind fun b=>some b.1)=some (l7 fr tp (n % 4294967296) 0 (Go.bits .and .u8 fl 23) 9 (65535 - norm (tT a b (l7 fr tp (n % 4294967296) 0 (Go.bits .and .u8 fl 23) 9 0 0 o (qc n)))) 0 o (qc n)):=fun o h1 h4 xN=>by
    rw [JV ha hb hfl h1 h4 (by omega) hd (by omega) K hK,bA,vW (by omega) (by omega) K (by omega),xM h4 (by omega) (by omega)]
    rfl
   unfold L0 at ho|-
   by_cases KN:Go.bits .and .u8 n 32=0
   ·rw [au KN] at ho|-
    rw [au KN];exact h2 [] ho.1 ho.2.1 ho.2.2
   ·rw [ax KN] at ho|-
    rw [ax KN];exact h2 _ ho.1 ho.2.1 ho.2.2
  ·rw [ax c6,ax c6]
   have h2:∀ t:Int,U8 t ->((eW.f K t 0 0 (OV fr n) (qc n)).bind fun s=>(bG.f t 0 s (OV fr n) (qc n)).bind fun b=>some b.1)=some (iD.f5 t 0 (ck (iD.f5 t 0 0 (OV fr n) (qc n))) (OV fr n) (qc n)):=fun t h1=>by
    rw [iD.AP t 0 0 _ _ K hK (by omega) (iD.kQ h1 (by omega) hd),bA,iD.l9 _ _ _ _ (by omega),ax (by omega)]
    rfl
   unfold SZ
   by_cases c1:Go.bits .and .u8 fl 1=0
   ·rw [au c1,au c1]
    exact h2 8 (by unfold U8;omega)
   ·rw [ax c1,ax c1]
    exact h2 0 (by unfold U8;omega)
theorem zY (pr a b fr tp fl n:Int):gU (yB pr a b fr tp fl n) /\ (yB pr a b fr tp fl n).length<=50:=by
 have hd:=Fv n;have hl:=Fw n;have ho:=Nn n;unfold yB
 split
 ·exact ⟨vY hd,by rw [oW];omega⟩
 ·split
  ·exact ⟨qF (G9 _ _ _) ho.1 hd,by rw [oU];omega⟩
  ·exact ⟨iD.kQ (Acb fl) (by omega) hd,by rw [iD.iP];omega⟩
def J8 (p8:Int):Int:=rd [3,11,12] (p8.tmod 3)
theorem VY (p8:Int):J8 p8=3 \/ J8 p8=11 \/ J8 p8=12 \/ J8 p8=0:=by
 unfold J8 rd;generalize (p8.tmod 3).toNat=i
 match i with
 |0=>exact .inl rfl
 |1=>exact .inr (.inl rfl)
 |2=>exact .inr (.inr (.inl rfl))
 |n+3=>exact .inr (.inr (.inr rfl))
def DY (pr s d fr tp p5 p8:Int):List Int:=f5 0 3 pr 0 0 0 d s [] (yB pr d s tp fr p5 p8)
def J9 (pr s d fr tp p5 p8:Int):List Int:=iD.f5 (J8 p8) 0 (ck (iD.f5 (J8 p8) 0 0 0 (DY pr s d fr tp p5 p8))) 0 (DY pr s d fr tp p5 p8)
theorem Ka {a t pr i fl dM s d:Int} {o l:List Int} (hf:fl<=7) (hg:dM<=8191) (h4:(o.length:Int) % 4=0) (xN:(o.length:Int)<=40) (hl:(l.length:Int)<=3000):EB a t pr i fl dM s d o l=(f5 a t pr i fl dM s d o l,0):=by
 unfold EB;rw [ax (by unfold wk;omega),ax (by omega)]
theorem Kb {pr s d fr tp p5 p8:Int} (hp:U8 pr):gU (DY pr s d fr tp p5 p8) /\ (DY pr s d fr tp p5 p8).length<=70:=by
 obtain ⟨h1,h2⟩:=zY pr d s tp fr p5 p8;unfold DY;refine ⟨kQ (by omega) (by omega) hp .nil h1 (by decide), ?_⟩;rw [iP];have:([]:List Int).length=0:=rfl
 omega
theorem S0 (p8:Int):U8 (J8 p8):=by
 have:=VY p8;unfold U8
 omega
theorem Nq {pr s d fr tp p5 p8:Int} (hp:U8 pr):gU (J9 pr s d fr tp p5 p8) /\ (J9 pr s d fr tp p5 p8).length<=80:=by
 obtain ⟨h1,h2⟩:=Kb (s:=s) (d:=d) (fr:=fr) (tp:=tp) (p5:=p5) (p8:=p8) hp;unfold J9;exact ⟨iD.kQ (S0 p8) (by omega) h1,by rw [iD.iP];omega⟩
theorem AhA (K:Nat) (hK:4000<=K) {pr s d fr tp p5 p7 p8:Int} {x:List Int} (hp:U8 pr) (hs:sB s) (hd:sB d) (hf:uI fr) (ht:uI tp):bE.er K pr s d fr tp p5 p7 p8 x=some (if p7.tmod 5=4 then (1,J9 pr s d fr tp p5 p8) else (pr,x)):=by
 unfold bE.er
 by_cases c:p7.tmod 5=4
 ·rw [au c,au c]
  obtain ⟨b1,b2⟩:=zY pr d s tp fr p5 p8;obtain ⟨e1,e2⟩:=Kb (s:=s) (d:=d) (fr:=fr) (tp:=tp) (p5:=p5) (p8:=p8) hp;rw [Np K hK hd hs ht hf,bA,l9 (by omega) (by omega) hp (by omega) (by omega) .nil (by decide) (by omega) K (by omega),Ka (by omega) (by omega) rfl (by decide) (by omega),bA]
  dsimp only
  have e3:=iD.AP (rd [3,11,12] (p8.tmod 3)) 0 0 0 (DY pr s d fr tp p5 p8) K hK (by omega) (iD.kQ (S0 p8) (by omega) e1);unfold DY at e3 e2
  rw [e3,bA,iD.l9 _ _ _ _ (by omega),ax (by omega),bA]
  rfl
 ·rw [ax c,ax c]
theorem S1 (p6 pr:Int) (hp:U8 pr):∃ t Km fl dM o,bE.sw p6 pr=(t,Km,fl,dM,o) /\ U8 t /\ U8 Km /\ (0<=fl /\ fl<=2) /\ (0<=dM /\ dM<=5) /\ gU o /\ (o.length:Int) % 4=0 /\ (o.length:Int)<=4:=by
 have h64:U8 64:=by unfold U8;omega
 unfold bE.sw
 split
 ·exact ⟨_,_,_,_,_,rfl,by unfold U8;omega,hp,by omega,by omega,.nil,rfl,by decide⟩
 ·split
  ·exact ⟨_,_,_,_,_,rfl,h64,hp,by omega,by omega,.nil,rfl,by decide⟩
  ·split
   ·exact ⟨_,_,_,_,_,rfl,h64,hp,by omega,by omega,.nil,rfl,by decide⟩
   ·split
    ·exact ⟨_,_,_,_,_,rfl,h64,by unfold U8;omega,by omega,by omega,.nil,rfl,by decide⟩
    ·split
     ·refine ⟨_,_,_,_,_,rfl,h64,hp,by omega,by omega,fun x hx=> ?_,rfl,by decide⟩
      simp only [List.mem_cons,List.not_mem_nil,or_false] at hx
      omega
     ·exact ⟨_,_,_,_,_,rfl,h64,hp,by omega,by omega,.nil,rfl,by decide⟩
theorem AhC {p8 p9:Int} {b:List Int} (h:gU b):gU (bE.sp p8 p9 b) /\ (bE.sp p8 p9 b).length=b.length:=by
 unfold bE.sp
 split
 ·split
  ·exact ⟨h.set _ (G9 _ _ _),by rw [List.length_set]⟩
  ·exact ⟨h,rfl⟩
 ·exact ⟨h,rfl⟩
theorem Ke (K:Nat) (hK:4000<=K) (p0 p1 p2 p3 p4 p5 p6 p7 p8 p9 side n:Int) (h0:0<=p0):∃ s d fr tp,sB s /\ sB d /\ uI fr /\ uI tp /\ jd.f p3=some fr /\ jd.f p4=some tp /\
  bE.f K p0 p1 p2 p3 p4 p5 p6 p7 p8 p9 side n=some (bE.sp p8 p9 (f5 0 (bE.sw p6 (if p7.tmod 5=4 then 1 else rd [17,6,1,17] (p0.tmod 4))).1 (bE.sw p6 (if p7.tmod 5=4 then 1 else rd [17,6,1,17] (p0.tmod 4))).2.1 (IntKind.u16.wrap p8) (bE.sw p6 (if p7.tmod 5=4 then 1 else rd [17,6,1,17] (p0.tmod 4))).2.2.1 (bE.sw p6 (if p7.tmod 5=4 then 1 else rd [17,6,1,17] (p0.tmod 4))).2.2.2.1 s d (bE.sw p6 (if p7.tmod 5=4 then 1 else rd [17,6,1,17] (p0.tmod 4))).2.2.2.2 (if p7.tmod 5=4 then J9 (rd [17,6,1,17] (p0.tmod 4)) s d fr tp p5 p8 else yB (rd [17,6,1,17] (p0.tmod 4)) s d fr tp p5 p8))):=by
 obtain ⟨s0,e1,hs0⟩:=J7 p1;obtain ⟨d0,e2,hd0⟩:=wm K (by omega) p2 (n % 256)
 obtain ⟨s,d,e3,hs,hd⟩:∃ s d,bE.sd K p1 p2 side n s0 d0=some (s,d) /\ sB s /\ sB d:=by
  unfold bE.sd
  split
  ·exact ⟨_,_,rfl,hs0,hd0⟩
  ·obtain ⟨s1,f1,hs1⟩:=wm K (by omega) p1 (n % 256)
   obtain ⟨d1,f2,hd1⟩:=wm K (by omega) ((5+p2.tmod 3) % 256) (n % 256);rw [f1,bA,f2,bA];exact ⟨_,_,rfl,hs1,hd1⟩
 obtain ⟨e4,Kl⟩:=DX p0 h0;obtain ⟨fr,e5,hfr⟩:=Fu p3;obtain ⟨tp,e6,htp⟩:=Fu p4;refine ⟨s,d,fr,tp,hs,hd,hfr,htp,e5,e6, ?_⟩;unfold bE.f;rw [e1,bA,e2,bA,e3,bA,e4,bA,e5,bA,e6,bA];generalize rd [17,6,1,17] (p0.tmod 4)=pr at Kl|-
 have hp8:U8 pr:=by unfold U8;omega
 dsimp only
 rw [Np K hK hs hd hfr htp,bA,AhA K hK hp8 hs hd hfr htp,bA];have b1:=zY pr s d fr tp p5 p8;have b2:=Nq (s:=s) (d:=d) (fr:=fr) (tp:=tp) (p5:=p5) (p8:=p8) hp8
 by_cases c:p7.tmod 5=4
 ·rw [au c,au c,au c]
  obtain ⟨t,Km,fl,dM,o,es,ht,Rg,hfl,SX,ho,h4,xN⟩:=S1 p6 1 (by unfold U8;omega)
  dsimp only
  rw [es,l9 (by omega) ht Rg hfl.1 SX.1 ho (by omega) (by omega) K (by omega),Ka (by omega) (by omega) h4 (by omega) (by omega),bA]
 ·rw [ax c,ax c,ax c]
  obtain ⟨t,Km,fl,dM,o,es,ht,Rg,hfl,SX,ho,h4,xN⟩:=S1 p6 pr hp8
  dsimp only
  rw [es,l9 (by omega) ht Rg hfl.1 SX.1 ho (by omega) (by omega) K (by omega),Ka (by omega) (by omega) h4 (by omega) (by omega),bA]
theorem Kf (K:Nat) (hK:4000<=K) (p0 p1 p2 p3 p4 p5 p6 p7 p8 p9 side n:Int) (h0:0<=p0):∃ r,bE.f K p0 p1 p2 p3 p4 p5 p6 p7 p8 p9 side n=some r /\ gU r /\ r.length<=110:=by
 obtain ⟨s,d,fr,tp,hs,hd,hfr,htp,_,_,e⟩:=Ke K hK p0 p1 p2 p3 p4 p5 p6 p7 p8 p9 side n h0;refine ⟨_,e, ?_⟩;have Kl:=(DX p0 h0).2;generalize rd [17,6,1,17] (p0.tmod 4)=pr at Kl|-
 have hp8:U8 pr:=by unfold U8;omega
 have hq:U8 (if p7.tmod 5=4 then 1 else pr):=by
  split
  ·unfold U8;omega
  ·exact hp8
 generalize (if p7.tmod 5=4 then 1 else pr)=q at hq|-
 obtain ⟨t,Km,fl,dM,o,es,ht,Rg,hfl,SX,ho,h4,xN⟩:=S1 p6 q hq;rw [es]
 have hx:gU (if p7.tmod 5=4 then J9 pr s d fr tp p5 p8 else yB pr s d fr tp p5 p8) /\ (if p7.tmod 5=4 then J9 pr s d fr tp p5 p8 else yB pr s d fr tp p5 p8).length<=80:=by
  split
  ·exact Nq hp8
  ·obtain ⟨b1,b2⟩:=zY pr s d fr tp p5 p8
   exact ⟨b1,by omega⟩
 generalize (if p7.tmod 5=4 then J9 pr s d fr tp p5 p8 else yB pr s d fr tp p5 p8)=x at hx|-
 have hb:gU (f5 0 t Km (IntKind.u16.wrap p8) fl dM s d o x):=kQ (by omega) ht Rg ho hx.1 (by omega);obtain ⟨g1,g2⟩:=AhC (p8:=p8) (p9:=p9) hb;refine ⟨g1, ?_⟩;rw [g2,iP]
 omega
end Go.Proofs.Ytkmimamminddiaa.Pure
namespace Go.Proofs.Ytkmimamminddiaa.PB
open Go.RowKit Go.Proofs.ai.bX Go.Proofs.ai.dh Go.Proofs.ai.iL
attribute [local go_sem] dF dG eG eH cQ cR dH dI
end Go.Proofs.Ytkmimamminddiaa.PB
namespace Go.Proofs.Ytkmimamminddiaa.Pure
open Go.RowKit Go.Proofs.Ytkmimamminddiaa.PB Go.Proofs.ai.bX Go.Proofs.ai.dh
open Go.Proofs.Ytkmimamminddiaa.Spec Go.Proofs.Ytkmimamminddiaa.j8
theorem l5:wrap64 (1+1)=2:=cj (by omega) (by omega)
theorem w23:wrap64 (2+1)=3:=cj (by omega) (by omega)
theorem Lc:wrap64 (3+1)=4:=cj (by omega) (by omega)
section
end
end Go.Proofs.Ytkmimamminddiaa.Pure
namespace Go.Proofs.Ytkmimamminddiaa.PB
open Go.RowKit Go.Proofs.ai.bX Go.Proofs.ai.dh Go.Proofs.ai.iL
attribute [local go_sem] dF dG eG eH cQ cR dH dI
attribute [local go_sem] dF dG eG eH cQ cR dH dI
attribute [local go_sem] dF dG eG eH cQ cR dH dI
end Go.Proofs.Ytkmimamminddiaa.PB
namespace Go.Proofs.Ytkmimamminddiaa.Pure
open Go.RowKit Go.Proofs.Ytkmimamminddiaa.PB Go.Proofs.ai.bX Go.Proofs.ai.dh
open Go.Proofs.Ytkmimamminddiaa.Spec Go.Proofs.Ytkmimamminddiaa.j8
theorem OW:U8 0:=by unfold U8;omega
theorem rQ:uI 0:=by unfold uI;omega
theorem Kg:sB 0:=by unfold sB;omega
theorem He {l:List Int} (h:gU l):∃ a t pr i fl dM s d o b e,LW l=(a,t,pr,i,fl,dM,s,d,o,b,e) /\ U8 a /\ U8 t /\ U8 pr /\ uI i /\ (0<=fl /\ fl<=7) /\ (0<=dM /\ dM<=8191) /\ sB s /\ sB d /\ gU o /\ (o.length:Int) % 4=0 /\ (o.length:Int)<=40 /\ gU b /\ b.length<=l.length:=by
 have hn:∀ e:Int,∃ a t pr i fl dM s d o b e',((0:Int),(0:Int),(0:Int),(0:Int),(0:Int),(0:Int),(0:Int),(0:Int),([]:List Int),([]:List Int),e)=(a,t,pr,i,fl,dM,s,d,o,b,e') /\ U8 a /\ U8 t /\ U8 pr /\ uI i /\ (0<=fl /\ fl<=7) /\ (0<=dM /\ dM<=8191) /\ sB s /\ sB d /\ gU o /\ (o.length:Int) % 4=0 /\ (o.length:Int)<=40 /\ gU b /\ b.length<=l.length:=fun e=>
  ⟨0,0,0,0,0,0,0,0,[],[],e,rfl,OW,OW,OW,rQ,by omega,by omega,Kg,Kg,.nil,rfl,by decide,.nil,Nat.zero_le _⟩
 have hh:=nR l;have h4:dV l % 4=0:=by unfold dV;omega
 have h6:=fP h 6;unfold LW
 by_cases c1:l.length<20
 ·rw [au c1];exact hn _
 ·rw [ax c1]
  by_cases c2:LV l
  ·rw [au c2];exact hn _
  ·rw [ax c2]
   by_cases c3:(l.length:Int)<jQ l 2
   ·rw [au c3];exact hn _
   ·rw [ax c3]
    by_cases c4:DV l≠65535
    ·rw [au c4];exact hn _
    ·rw [ax c4]
     have c5:l.getD 0 0 / 16=4 /\ dV l>=20 /\ jQ l 2>=dV l:=by
      unfold LV at c2
      exact Decidable.not_not.1 c2
     have ho:(((l.take (dV l).toNat).drop 20).length:Int)=dV l - 20:=by
      rw [List.length_drop,List.length_take]
      omega
     refine ⟨_,_,_,_,_,_,_,_,_,_,_,rfl,h.getD _,h.getD _,h.getD _,fP h 4,⟨by omega,by omega⟩,⟨by omega,by omega⟩,uG h 12,uG h 16,(h.take _).drop _,by omega,by omega,(h.take _).drop _, ?_⟩;rw [List.length_drop,List.length_take]
     omega
theorem L3 {l:List Int} (h:gU l):∃ s d c b e,udg l=(s,d,c,b,e) /\ uI s /\ uI d /\ uI c /\ gU b /\ b.length<=l.length:=by
 unfold udg
 split
 ·exact ⟨_,_,_,_,_,rfl,rQ,rQ,rQ,.nil,Nat.zero_le _⟩
 ·split
  ·exact ⟨_,_,_,_,_,rfl,rQ,rQ,rQ,.nil,Nat.zero_le _⟩
  ·split
   ·exact ⟨_,_,_,_,_,rfl,rQ,rQ,rQ,.nil,Nat.zero_le _⟩
   ·refine ⟨_,_,_,_,_,rfl,fP h 0,fP h 2,fP h 6,(h.take _).drop _, ?_⟩
    rw [List.length_drop,List.length_take]
    omega
theorem Hf {l:List Int} (h:gU l):∃ s d q a f w c u o b e,LL l=(s,d,q,a,f,w,c,u,o,b,e) /\ uI s /\ uI d /\ sB q /\ sB a /\ U8 f /\ uI w /\ uI c /\ uI u /\ gU o /\ (o.length:Int) % 4=0 /\ (o.length:Int)<=40 /\ gU b /\ b.length<=l.length:=by
 have hn:∀ e:Int,∃ s d q a f w c u o b e',((0:Int),(0:Int),(0:Int),(0:Int),(0:Int),(0:Int),(0:Int),(0:Int),([]:List Int),([]:List Int),e)=(s,d,q,a,f,w,c,u,o,b,e') /\ uI s /\ uI d /\ sB q /\ sB a /\ U8 f /\ uI w /\ uI c /\ uI u /\ gU o /\ (o.length:Int) % 4=0 /\ (o.length:Int)<=40 /\ gU b /\ b.length<=l.length:=fun e=>
  ⟨0,0,0,0,0,0,0,0,[],[],e,rfl,rQ,rQ,Kg,Kg,OW,rQ,rQ,rQ,.nil,rfl,by decide,.nil,Nat.zero_le _⟩
 have FL:=h.getD 12;unfold LL
 by_cases c1:l.length<20
 ·rw [au c1];exact hn _
 ·rw [ax c1]
  by_cases c2:4*(l.getD 12 0 / 16)<20
  ·rw [au c2];exact hn _
  ·rw [ax c2]
   by_cases c3:(l.length:Int)<4*(l.getD 12 0 / 16)
   ·rw [au c3];exact hn _
   ·rw [ax c3]
    have ho:(((l.take (4*(l.getD 12 0 / 16)).toNat).drop 20).length:Int)=4*(l.getD 12 0 / 16) - 20:=by
     rw [List.length_drop,List.length_take]
     omega
    refine ⟨_,_,_,_,_,_,_,_,_,_,_,rfl,fP h 0,fP h 2,uG h 4,uG h 8,h.getD 13,fP h 14,fP h 16,fP h 18,(h.take _).drop _,by omega,by omega,h.drop _, ?_⟩;rw [List.length_drop]
    omega
theorem Cm {l:List Int} (h:gU l):∃ t c s r b e,iD.LS l=(t,c,s,r,b,e) /\ U8 t /\ U8 c /\ uI s /\ sB r /\ gU b /\ b.length<=l.length:=by
 unfold iD.LS
 split
 ·exact ⟨_,_,_,_,_,_,rfl,OW,OW,rQ,Kg,.nil,Nat.zero_le _⟩
 ·exact ⟨_,_,_,_,_,_,rfl,h.getD _,h.getD _,fP h 2,uG h 4,h.drop _,by rw [List.length_drop];omega⟩
def rm (t c:Int):Bool:=(t==8||t==0) && c==0
def jh (b:List Int):Option Int:=
 if b.length<20 then none else if ¬ b.getD 0 0 / 16=4 \/ dV b<20 \/ (b.length:Int)<dV b+8 then none
 else if b.getD 9 0=17 \/ b.getD 9 0=6 then some (dV b)
 else if b.getD 9 0=1 then (if rm (b.getD (dV b).toNat 0) (b.getD ((dV b).toNat+1) 0)=true then some (dV b) else none) else none
def qK (b:List Int) (h:Nat):Int×Int:=if b.getD 9 0=1 then (jQ b (h+4),jQ b (h+4)) else (jQ b h,jQ b (h+2))
def xq (b:List Int):Option (nj×nj):=(jh b).map fun h=>(⟨sy b 12,(qK b h.toNat).1⟩,⟨sy b 16,(qK b h.toNat).2⟩)
theorem L4 {b:List Int} {h:Int} (e:jh b=some h):h=dV b /\ 20<=h /\ h+8<=(b.length:Int) /\ b.getD 0 0 / 16=4 /\ (b.getD 9 0=17 \/ b.getD 9 0=6 \/ b.getD 9 0=1):=by
 unfold jh at e
 by_cases c1:b.length<20
 ·rw [au c1] at e;cases e
 ·rw [ax c1] at e
  by_cases c2:¬ b.getD 0 0 / 16=4 \/ dV b<20 \/ (b.length:Int)<dV b+8
  ·rw [au c2] at e;cases e
  ·rw [ax c2] at e
   have c3:b.getD 0 0 / 16=4 /\ 20<=dV b /\ dV b+8<=(b.length:Int):=by
    refine ⟨Decidable.not_not.1 (fun h=>c2 (.inl h)), ?_, ?_⟩
    ·have:=fun h=>c2 (.inr (.inl h));omega
    ·have:=fun h=>c2 (.inr (.inr h));omega
   by_cases c4:b.getD 9 0=17 \/ b.getD 9 0=6
   ·rw [au c4] at e
    obtain rfl:=cS e;exact ⟨rfl,c3.2.1,c3.2.2,c3.1,c4.elim .inl (fun h=> .inr (.inl h))⟩
   ·rw [ax c4] at e
    by_cases c5:b.getD 9 0=1
    ·rw [au c5] at e
     split at e
     ·obtain rfl:=cS e
      exact ⟨rfl,c3.2.1,c3.2.2,c3.1,.inr (.inr c5)⟩
     ·cases e
    ·rw [ax c5] at e;cases e
theorem Cn (t c a d:Int) (l:List Int):kL.f t c a d l=some (rm t c):=by
 unfold kL.f lF.f rm
 by_cases h0:t=0
 ·subst h0
  rw [au rfl,bA,au rfl]
  rfl
 ·rw [ax h0]
  by_cases h8:t=8
  ·subst h8
   rw [au rfl,bA,au rfl]
   rfl
  ·rw [ax h8]
   have e1:(t==8)=false:=fc h8;have e2:(t==0)=false:=fc h0;rw [e1,e2]
   split
   ·rfl
   ·split
    ·rfl
    ·split<;>rfl
theorem DZ {b:List Int} (h:gU b) (i:Nat) (hi:i+2<=b.length):cW.f (b.drop i)=some (jQ b i):=by
 have hl:(b.drop i).length=b.length - i:=List.length_drop;unfold cW.f;rw [au (by omega),au (by omega)]
 have e0:rd (b.drop i) 0=b.getD i 0:=by
  rw [ia _ 0 0 rfl]
  simp [List.getD_eq_getElem?_getD]
 have e1:rd (b.drop i) 1=b.getD (i+1) 0:=by
  rw [ia _ 1 1 rfl]
  simp [List.getD_eq_getElem?_getD]
 rw [e0,e1,DG (h.getD i) (h.getD (i+1))]
 rfl
theorem Co {b:List Int} (h:gU b) (i:Nat) (hi:i+4<=b.length):dR.f (b.drop i)=some (sy b i):=by
 have hl:(b.drop i).length=b.length - i:=List.length_drop;unfold dR.f;rw [DZ h i (by omega),bA,au (by omega),List.drop_drop,DZ h (i+2) (by omega),bA,LI (fP h i) (fP h (i+2))]
 rfl
theorem OX {b:List Int} (h:gU b) (hl:b.length<=1000000000) (K:Nat) (hK:3<=K):∃ x,cn.f K b=some (x,(jh b).isSome) /\ ∀ y,jh b=some y ->x=y:=by
 obtain ⟨k,rfl⟩:∃ j,K=j+3:=⟨K - 3,by omega⟩
 have hh:=nR b;have hd:=DU h;have r0:rd b 0=b.getD 0 0:=ia b 0 0 rfl;have r9:rd b 9=b.getD 9 0:=ia b 9 9 rfl;have w8:wrap64 (dV b+8)=dV b+8:=cj (by omega) (by omega);unfold cn.f jh
 by_cases c1:b.length<20
 ·rw [au (show (b.length:Int)<20 by omega),au c1]
  exact ⟨_,rfl,fun y e=>by cases e⟩
 ·rw [ax (show ¬ (b.length:Int)<20 by omega),ax c1,au (by omega),hd,r0,w8]
  have jt:cn.j0 (k+3) b (dV b) true=some (0,false):=by rw [cn.j0,au rfl]
  by_cases c2:b.getD 0 0 / 16=4
  ·rw [au c2]
   by_cases c3:dV b<20
   ·rw [au c3,au (.inr (.inl c3)),jt]
    exact ⟨_,rfl,fun y e=>by cases e⟩
   ·rw [ax c3]
    by_cases c4:(b.length:Int)<dV b+8
    ·rw [au (.inr (.inr c4)),bS c4,jt]
     exact ⟨_,rfl,fun y e=>by cases e⟩
    ·rw [ax (fun hh=>hh.elim (fun x=>x c2) (fun x=>x.elim c3 c4)),gO c4,cn.j0,ax (by decide),au (show 9<(b.length:Int) by omega),r9]
     have j1t:∀ x,cn.j1 (k+2) b (dV b) x true=some (dV b,true):=fun x=>by rw [cn.j1,au rfl]
     by_cases rL:b.getD 9 0=17
     ·rw [au rL,au (.inl rL),fH rL,j1t]
      exact ⟨_,rfl,fun y e=>cS e⟩
     ·rw [ax rL]
      by_cases c6:b.getD 9 0=6
      ·rw [au (.inr c6),fH c6,j1t]
       exact ⟨_,rfl,fun y e=>cS e⟩
      ·rw [ax (fun hh=>hh.elim rL c6),fc c6,cn.j1,ax (by decide)]
       by_cases c5:b.getD 9 0=1
       ·rw [au c5,au c5,au (by omega),au (by omega)]
        have hdl:(b.drop (dV b).toNat).length=b.length - (dV b).toNat:=List.length_drop
        have e0:rd (b.drop (dV b).toNat) 0=b.getD (dV b).toNat 0:=by
         rw [ia _ 0 0 rfl]
         simp [List.getD_eq_getElem?_getD]
        have e1:rd (b.drop (dV b).toNat) 1=b.getD ((dV b).toNat+1) 0:=by
         rw [ia _ 1 1 rfl]
         simp [List.getD_eq_getElem?_getD]
        have e2:fV.f (b.drop (dV b).toNat)=some (rm (b.getD (dV b).toNat 0) (b.getD ((dV b).toNat+1) 0)):=by
         unfold fV.f;rw [au (by omega),au (by omega),e0,e1,Cn,bA]
        rw [e2,bA]
        by_cases c7:rm (b.getD (dV b).toNat 0) (b.getD ((dV b).toNat+1) 0)=true
        ·rw [au c7,c7]
         exact ⟨_,rfl,fun y e=>cS e⟩
        ·rw [ax c7,Bool.eq_false_iff.2 c7]
         exact ⟨_,rfl,fun y e=>by cases e⟩
       ·rw [ax c5,ax c5]
        exact ⟨_,rfl,fun y e=>by cases e⟩
  ·rw [ax c2,au (.inl c2),jt]
   exact ⟨_,rfl,fun y e=>by cases e⟩
theorem Kh {b:List Int} (h:gU b) (hl:b.length<=1000000000) (K:Nat) (hK:3<=K):cV.f K b=some (match xq b with|none=>([],false)|some p=>([p.1,p.2],true)):=by
 obtain ⟨x,e,hx⟩:=OX h hl K hK;unfold cV.f xq;rw [e,bA]
 cases hw:jh b with
 |none=>rfl
 |some y=>
  obtain rfl:=hx y hw;obtain ⟨he,h20,h8,h4,hp⟩:=L4 hw;have r9:rd b 9=b.getD 9 0:=ia b 9 9 rfl;have hr:=nR b;have w2:wrap64 (x+2)=x+2:=cj (by omega) (by omega);have w4:wrap64 (x+4)=x+4:=cj (by omega) (by omega);have t2:(x+2).toNat=x.toNat+2:=by omega
  have t4:(x+4).toNat=x.toNat+4:=by omega
  dsimp only [Option.isSome_some,Option.map_some];rw [au rfl,au (by omega),au (by omega),DZ h _ (by omega),bA,w2,au (by omega),au (by omega),t2,DZ h _ (by omega),bA,au (by omega),r9];unfold qK
  by_cases c:b.getD 9 0=1
  ·rw [au c,au c,w4,au (by omega),au (by omega),t4,DZ h _ (by omega),bA,au (by omega),Co h 12 (by omega),bA,au (by omega),Co h 16 (by omega),bA]
  ·rw [ax c,ax c,au (by omega),Co h 12 (by omega),bA,au (by omega),Co h 16 (by omega),bA]
structure D9 (a t i fl dM s d:Int) (o:List Int):Prop where
 ha:U8 a
 ht:U8 t
 hi:uI i
 hf:0<=fl /\ fl<=7
 hg:0<=dM /\ dM<=8191
 hs:sB s
 hd:sB d
 ho:gU o
 h4:(o.length:Int) % 4=0
 xN:(o.length:Int)<=40
theorem D9.to {a t i fl dM s d s' d':Int} {o:List Int} (h:D9 a t i fl dM s d o) (hs:sB s') (hd:sB d'):D9 a t i fl dM s' d' o:=⟨h.ha,h.ht,h.hi,h.hf,h.hg,hs,hd,h.ho,h.h4,h.xN⟩
section
variable {a t i fl dM s d:Int} {o b:List Int}
theorem D9.len (h:D9 a t i fl dM s d o) {pr:Int}:(f5 a t pr i fl dM s d o b).length=20+o.length+b.length:=iP
theorem D9.out (h:D9 a t i fl dM s d o) {pr:Int} (hp:U8 pr) (hl:b.length<=2500) (K:Nat) (hK:4000<=K):eM.f K a t pr i fl dM s d o b=some (f5 a t pr i fl dM s d o b,0):=by
 have h1:=h.xN;rw [qI h.ha h.ht hp h.hf.1 h.hg.1 h.ho (by omega) (by omega) K (by omega),Ka h.hf.2 h.hg.2 h.h4 h.xN (by omega)]
end
section
variable {a t i fl dM s d us ud c:Int} {o ub:List Int}
def L5 (c s d sp dp:Int) (ub:List Int):Int:=if c=0 then 0 else BI (pK s d sp dp ub)
theorem OY (hs:sB s) (hd:sB d) (hp:uI us) (hq:uI ud) (Oi:gU ub) (hl:ub.length<=2000) (x y:Int) (K:Nat) (hK:4000<=K):pointed.f K s us d ud (.udp x y c ub)=some (l8 us ud (L5 c s d us ud ub) ub):=by
 unfold pointed.f L5
 dsimp only
 by_cases h0:c=0
 ·rw [au h0,au h0,AO _ _ _ (by omega),ax (by omega),h0]
  rfl
 ·rw [ax h0,ax h0,VT hs hd hp hq Oi (by omega) K hK,bA,AO _ _ _ (by omega),ax (by omega)]
  rfl
end
section
variable {a t i fl dM s d ts td tq ta tf tw tc tu:Int} {o nf tb:List Int}
structure Ki (ts td tq ta tf tw tu:Int) (nf tb:List Int):Prop where
 hs:uI ts
 hd:uI td
 hq:sB tq
 ha:sB ta
 hf:U8 tf
 hw:uI tw
 hu:uI tu
 ho:gU nf
 h4:(nf.length:Int) % 4=0
 xN:(nf.length:Int)<=40
 hb:gU tb
 hl:tb.length<=2000
theorem Ki.to {ts' td':Int} (h:Ki ts td tq ta tf tw tu nf tb) (hs:uI ts') (hd:uI td'):Ki ts' td' tq ta tf tw tu nf tb:=⟨hs,hd,h.hq,h.ha,h.hf,h.hw,h.hu,h.ho,h.h4,h.xN,h.hb,h.hl⟩
def AhD (s d ts td tq ta tf tw tu:Int) (nf tb:List Int):Int:=65535 - norm (tT s d (l7 ts td tq ta tf tw 0 tu nf tb))
theorem OZ (hs:sB s) (hd:sB d) (g:Ki ts td tq ta tf tw tu nf tb) (x y:Int) (K:Nat) (hK:4000<=K):pointed.f K s ts d td (.tcp x y tq ta tf tw tc tu nf tb)=some (l7 ts td tq ta tf tw (AhD s d ts td tq ta tf tw tu nf tb) tu nf tb):=by
 have h2:=g.hl;have h3:=g.xN;unfold pointed.f
 dsimp only
 rw [VR hs hd g.hf g.ho g.h4 g.xN g.hb (by omega) K hK,bA,Fg (by omega) (by omega) K (by omega),xM g.h4 g.xN (by omega)]
 rfl
end
theorem Kj (x y:Int):Go.bits .or .u32 x y=Go.bits .or .u32 y x:=by
 unfold Go.bits;simp only [BitVec.or_comm]
section
variable {a t i fl dM s d mt mc ms mr:Int} {o mb:List Int}
def VZ (mt mc mr:Int) (mb:List Int):Int:=ck (iD.f5 mt mc 0 mr mb)
theorem L6 (h1:U8 mt) (h2:U8 mc) (hb:gU mb) (hl:mb.length<=2000) (he:rm mt mc=true) (si sp di dp:Int) (hr:sB mr) (hp:uI sp) (K:Nat) (hK:4000<=K):pointed.f K si sp di dp (.wC mt mc ms mr mb)=some (iD.f5 mt mc (VZ mt mc (mr % 65536+sp*65536) mb) (mr % 65536+sp*65536) mb):=by
 have e0:Go.bits .or .u32 (Go.bits .and .u32 mr 65535) (sp % 4294967296*65536 % 4294967296)=mr % 65536+sp*65536:=by
  unfold sB at hr
  unfold uI at hp
  rw [pI hr.1 hr.2,show sp % 4294967296*65536 % 4294967296=sp*65536 from by omega,Kj,AK 16 (by omega) (by omega) (by omega) (by omega) (by omega) (by omega)]
  omega
 unfold pointed.f
 dsimp only
 rw [Cn,bA,au he,e0,iD.J0 mt mc ms _ mb K hK (by omega) (iD.kQ h1 h2 hb),bA,iD.qI _ _ _ _ (by omega),ax (by omega)]
 rfl
theorem O0 (h1:U8 mt) (h2:U8 mc) (hb:gU mb) (hl:mb.length<=2000) (he:rm mt mc=false) (si sp di dp:Int) (K:Nat) (hK:4000<=K):pointed.f K si sp di dp (.wC mt mc ms mr mb)=some (iD.f5 mt mc (VZ mt mc mr mb) mr mb):=by
 unfold pointed.f
 dsimp only
 rw [Cn,bA,ax (by rw [he];decide),iD.J0 mt mc ms _ mb K hK (by omega) (iD.kQ h1 h2 hb),bA,iD.qI _ _ _ _ (by omega),ax (by omega)]
 rfl
end
end Go.Proofs.Ytkmimamminddiaa.Pure
namespace Go.Proofs.Ytkmimamminddiaa.PB
open Go.RowKit Go.Proofs.ai.bX Go.Proofs.ai.dh Go.Proofs.ai.iL
open Go.Proofs.Ytkmimamminddiaa.Spec Go.Proofs.Ytkmimamminddiaa.j8 Go.Proofs.Ytkmimamminddiaa.Pure
theorem iR {P:Program} {fn:Func} {p p2 u3 u4 u5:Tmp} {ty MO:TypeId} (h:fn.results= #[.cell p ty,.cell p2 MO,.tmp u3,.tmp u4,.tmp u5]) (tmps:Array Value) (w:World) (g g2:Nat) (t t2:TypeId) (cs Ky:Array Value) (fr Xn:Nat×Nat) (d d2:TypeDesc)
  (hp:tmps.getD p undef= .pointer (some ⟨g,0,none⟩)) (hg:w.heap[g]?=some (.cells cs t fr)) (hu:P.underlying ty=some d) (hd:(match d with| .struct _| .array _ _=>true|_=>false)=true) (hi:(P.info? ty).map (·.size)=some cs.size)
  (Rg:tmps.getD p2 undef= .pointer (some ⟨g2,0,none⟩)) (hg2:w.heap[g2]?=some (.cells Ky t2 Xn)) (hu2:P.underlying MO=some d2) (hd2:(match d2 with| .struct _| .array _ _=>true|_=>false)=true) (hi2:(P.info? MO).map (·.size)=some Ky.size):
  (results fn tmps).run P w= .ok (.tuple #[.agg cs,.agg Ky,tmps.getD u3 undef,tmps.getD u4 undef,tmps.getD u5 undef]) w:=by
 have h1:tmps[p]?.getD undef= .pointer (some ⟨g,0,none⟩):=by simpa using hp
 have h2:tmps[p2]?.getD undef= .pointer (some ⟨g2,0,none⟩):=by simpa using Rg
 simp [results,h,h1,h2,asAddr,run_loadVar_row w g t ty cs fr d hg hu hd hi,run_loadVar_row w g2 t2 MO Ky Xn d2 hg2 hu2 hd2 hi2]
def yS (b:List Int):nj×nj×Int×Int×Bool:=match jh b with
 |none=>(⟨0,0⟩,⟨0,0⟩,0,0,false)
 |some h=>(⟨sy b 12,(qK b h.toNat).1⟩,⟨sy b 16,(qK b h.toNat).2⟩,b.getD 9 0,h,true)
theorem qd {b:List Int} (h:jh b=none):yS b=(⟨0,0⟩,⟨0,0⟩,0,0,false):=by unfold yS;rw [h]
theorem xu {b:List Int} {x:Int} (h:jh b=some x):yS b=(⟨sy b 12,(qK b x.toNat).1⟩,⟨sy b 16,(qK b x.toNat).2⟩,b.getD 9 0,x,true):=by unfold yS;rw [h]
section
variable {b:List Int}
theorem V0 (h:b.length<20):jh b=none:=by unfold jh;rw [au h]
theorem S3 (h:¬ b.length<20) (h2:¬ b.getD 0 0 / 16=4 \/ dV b<20 \/ (b.length:Int)<dV b+8):jh b=none:=by unfold jh;rw [ax h,au h2]
theorem Yn (h2:b.getD 0 0 / 16=4) (h3:¬ dV b<20) (h4:¬ (b.length:Int)<dV b+8):¬ (¬ b.getD 0 0 / 16=4 \/ dV b<20 \/ (b.length:Int)<dV b+8):=fun h=>h.elim (fun x=>x h2) (fun h=>h.elim h3 h4)
theorem AhE (h:¬ b.length<20) (h2:b.getD 0 0 / 16=4) (h3:¬ dV b<20) (h4:¬ (b.length:Int)<dV b+8) (h5:b.getD 9 0=17 \/ b.getD 9 0=6):jh b=some (dV b):=by unfold jh;rw [ax h,ax (Yn h2 h3 h4),au h5]
theorem S4 (h:¬ b.length<20) (h2:b.getD 0 0 / 16=4) (h3:¬ dV b<20) (h4:¬ (b.length:Int)<dV b+8) (h5:b.getD 9 0=1) (h6:rm (b.getD (dV b).toNat 0) (b.getD ((dV b).toNat+1) 0)=true):jh b=some (dV b):=by
 unfold jh;rw [ax h,ax (Yn h2 h3 h4),ax (fun e=>by rw [h5] at e;exact absurd e (by decide)),au h5,au h6]
theorem Hg (h:¬ b.length<20) (h1:¬ b.getD 9 0=17) (h2:¬ b.getD 9 0=6) (h6:rm (b.getD (dV b).toNat 0) (b.getD ((dV b).toNat+1) 0)=false):jh b=none:=by
 unfold jh;rw [ax h]
 split
 ·rfl
 ·rw [ax (show ¬ (b.getD 9 0=17 \/ b.getD 9 0=6) from fun e=>e.elim h1 h2)]
  by_cases h5:b.getD 9 0=1
  ·rw [au h5,ax (by rw [h6];decide)]
  ·rw [ax h5]
theorem AhF (h:¬ b.length<20) (h1:¬ b.getD 9 0=17) (h2:¬ b.getD 9 0=6) (h3:¬ b.getD 9 0=1):jh b=none:=by
 unfold jh;rw [ax h]
 split
 ·rfl
 ·rw [ax (show ¬ (b.getD 9 0=17 \/ b.getD 9 0=6) from fun e=>e.elim h1 h2)]
end
section
variable {w:World} {A:Option Addr} {ad:Addr} {n:Nat} {b:List Int} {x:Int}
theorem cb {w0:World} (HC:aa (Kd.C (Kd.int .u8) w0 A n b)) (hB:aa (Below w0.heap.size w0 w)):aa (Kd.C (Kd.int .u8) w A n b):=⟨Kd.aU HC.out hB.out⟩
theorem V1 (HC:aa (Kd.C (Kd.int .u8) w A b.length b)) (h:0<b.length):∃ ad,A=some ad:=by
 obtain ⟨ad,e,_⟩:=Kd.dB HC.out 0 (by omega) (by omega);exact ⟨ad,e⟩
theorem V2 (HC:aa (Kd.C (Kd.int .u8) w (some ad) b.length b)) (i:Int) (j:Nat) (e:i=(j:Int)) (h:j<b.length) (E:aa (x=b.getD j 0)):w.cell? (ad.add i.toNat)=some (.int .u8 x):=by
 obtain ⟨ad_,e_,hx⟩:=Kd.dB HC.out i (by omega) (by omega);obtain rfl:=cS e_;rw [hx,ia b i j e,E.out]
theorem Aom (HC:aa (Kd.C (Kd.int .u8) w (some ad) b.length b)) (h:0<b.length) (E:aa (x=b.getD 0 0)):w.cell? ad=some (.int .u8 x):=by
 have h1:=V2 HC 0 0 rfl h E
 rwa [show (0:Int).toNat=0 from rfl,Addr.add_zero'] at h1
end
def rR.R3.T:Bool×List (List Nat×List Nat):=(true,[([],[]),([],[]),([0,0],[0]),([1,2,0,1,2],[1]),([3,0,1,2,3],[]),([4,0,1,2,3,4],[]),([5,0,1,2,3,4,5],[])])
theorem rR.R3.tab:gS .any (opsOf Try.f91 3)=rR.R3.T:=by kernel_rfl
theorem rR.R3.bits:dN rR.R3.T.2 [0,0,1,7,15,31,63]=true:=by kernel_rfl
def rR.R6.T:Bool×List (List Nat×List Nat):=(true,[([],[]),([],[]),([0,0],[0]),([1,2,0,1,2],[1]),([3,0,1,2,3],[]),([4,0,1,2,3,4],[]),([5,0,1,2,3,4,5],[])])
theorem rR.R6.tab:gS .any (opsOf Try.f91 6)=rR.R6.T:=by kernel_rfl
theorem rR.R6.bits:dN rR.R6.T.2 [0,0,1,7,15,31,63]=true:=by kernel_rfl
def rR.Pf.T:Bool×List (List Nat×List Nat):=(true,[([],[]),([],[]),([],[]),([],[]),([0,0],[0]),([1,4,0,1,4],[1]),([2,5,0,1,2,4,5],[2]),([3,6,0,1,2,3,4,5,6],[3]),([7,0,1,2,3,4,5,6,7],[])])
theorem rR.Pf.tab:gS .any (opsOf Try.f91 19)=rR.Pf.T:=by kernel_rfl
theorem rR.Pf.bits:dN rR.Pf.T.2 [0,0,0,0,1,19,55,127,255]=true:=by kernel_rfl
def rR.Cc.T:Bool×List (List Nat×List Nat):=(true,[([],[]),([],[]),([0,0],[0]),([1,2,0,1,2],[1]),([3,0,1,2,3],[]),([4,0,1,2,3,4],[]),([5,0,1,2,3,4,5],[])])
theorem rR.Cc.tab:gS .any (opsOf Try.f91 16)=rR.Cc.T:=by kernel_rfl
theorem rR.Cc.bits:dN rR.Cc.T.2 [0,0,1,7,15,31,63]=true:=by kernel_rfl
def rR.Og.T:Bool×List (List Nat×List Nat):=(true,[([],[]),([],[]),([0,0],[0]),([1,2,0,1,2],[1]),([3,0,1,2,3],[]),([4,0,1,2,3,4],[]),([5,0,1,2,3,4,5],[])])
theorem rR.Og.tab:gS .any (opsOf Try.f91 10)=rR.Og.T:=by kernel_rfl
theorem rR.Og.bits:dN rR.Og.T.2 [0,0,1,7,15,31,63]=true:=by kernel_rfl
theorem rR.calls (A:Option Addr) (c:Nat) (b:List Int) (w:World) (hB:gU b) (hn:b.length<=100000) (hC:Kd.C (Kd.int .u8) w A b.length b) (hL:b.length<=c):
  Calls Try.prog 91 #[.slice A b.length c] w fun e w'=>e= .returned (.tuple #[.agg #[.int .u32 (yS b).1.f0,.int .u16 (yS b).1.f1],.agg #[.int .u32 (yS b).2.1.f0,.int .u16 (yS b).2.1.f1],.int .u8 (yS b).2.2.1,.int .i64 (yS b).2.2.2.1,.bool (yS b).2.2.2.2]) /\ Below w.heap.size w w':=by
 have iQ:=Try.underlying65;have HB:=gj w;have fL:aa ((Try.prog.info? 65).map (·.size)=some 2):=⟨by kernel_rfl⟩
 have HC:=aa.mk hC;have HL:=aa.mk hL;have Yo:=aa.mk hB;have HN:=aa.mk hn;have hr:=nR b;obtain ⟨x0,e0⟩:∃ x,x=b.getD 0 0:=⟨_,rfl⟩
 have E0:=aa.mk e0;obtain ⟨x9,e9⟩:∃ x,x=b.getD 9 0:=⟨_,rfl⟩
 have E9:=aa.mk e9;obtain ⟨hd,eh⟩:∃ x,x=dV b:=⟨_,rfl⟩
 have EH:=aa.mk eh;obtain ⟨y0,et⟩:∃ x,x=b.getD hd.toNat 0:=⟨_,rfl⟩
 have ET:=aa.mk et;obtain ⟨y1,ec⟩:∃ x,x=b.getD (hd.toNat+1) 0:=⟨_,rfl⟩
 have EC:=aa.mk ec;obtain ⟨h8,e8⟩:∃ x,x=hd+8:=⟨_,rfl⟩
 have E8:=aa.mk e8;obtain ⟨h1,e1⟩:∃ x,x=hd+1:=⟨_,rfl⟩
 have E1:=aa.mk e1;obtain ⟨h2,e2⟩:∃ x,x=hd+2:=⟨_,rfl⟩
 have E2:=aa.mk e2;obtain ⟨h4,e4⟩:∃ x,x=hd+4:=⟨_,rfl⟩
 have E4:=aa.mk e4;have E1w:aa (wrap64 (hd+1)=h1):=⟨by rw [cj (by omega) (by omega)];exact e1.symm⟩
 have w1_:wrap64 (hd+1)=h1:=by rw [cj (by omega) (by omega)];exact e1.symm
 have w2_:wrap64 (hd+2)=h2:=by rw [cj (by omega) (by omega)];exact e2.symm
 have w4_:wrap64 (hd+4)=h4:=by rw [cj (by omega) (by omega)];exact e4.symm
 have w8_:wrap64 (hd+8)=h8:=by rw [cj (by omega) (by omega)];exact e8.symm
 have wh_:wrap64 ((wrap64 (Go.bits .and .u8 x0 15))*4)=hd:=by
  have h:=Fs hB;rw [ia b 0 0 rfl,<- e0] at h
  exact h.trans eh.symm
 clear hC hL hB hn hr e0 e9 eh et ec e8 e1 e2 e4
 go_enter Try.func91,Try.ntmps91
 go_upto_region 2 with (first|((with_reducible refine aA (N:=2) rfl ?_);refine aC ?gJ (N:=2) ?iS (cs:= #[.int .u32 0,.int .u16 0]) (t:=65) ?fq ?_;(case iS=>rfl);(case gJ=>rfl);(case fq=>first|(go_simp;done)|(go_simp;rfl));intro ga cv w1 bJ cP;have BL:=aa.mk (show w.heap.size<=ga by rw [cv];exact af HB.out);have hU:=aa.mk bJ;have ah:=cP;replace HB:=mB HB ah;clear ah;clear cv bJ cP)|((with_reducible refine aA (N:=3) rfl ?_);refine aC ?gJ (N:=3) ?iS (cs:= #[.int .u32 0,.int .u16 0]) (t:=65) ?fq ?_;(case iS=>rfl);(case gJ=>rfl);(case fq=>first|(go_simp;done)|(go_simp;rfl));intro gb cv w2 bJ cP;have BM:=aa.mk (show w.heap.size<=gb by rw [cv];exact af HB.out);have ij:=aa.mk bJ;have fG:aa (ga≠gb):=⟨by rw [cv];exact (dJ hU).out⟩;have ah:=cP;replace HB:=mB HB ah;replace hU:=mX hU ah;clear ah;clear cv bJ cP)|((with_reducible refine aA (N:=7) rfl ?_);refine aC ?gJ (N:=7) ?iS (cs:= #[.int .u32 0,.int .u16 0]) (t:=65) ?fq ?_;(case iS=>rfl);(case gJ=>rfl);(case fq=>first|(go_simp;done)|(go_simp;rfl));intro gn cv w3 bJ cP;have BA:=aa.mk (show w.heap.size<=gn by rw [cv];exact af HB.out);have cB:=aa.mk bJ;have ko:aa (ga≠gn):=⟨by rw [cv];exact (dJ hU).out⟩;have kp:aa (gb≠gn):=⟨by rw [cv];exact (dJ ij).out⟩;have ah:=cP;replace HB:=mB HB ah;replace hU:=mX hU ah;replace ij:=mX ij ah;clear ah;clear cv bJ cP))
 by_cases c1:b.length<20
 ·have Hj:=aa.mk c1
  have d1:decide ((b.length:Int)<20)=true:=bS (by omega);have d2:decide (b.length<20)=true:=bS c1;clear c1
  (try dsimp only)
  go_upto_region 3 with (fail)
  refine dg (n:=7) (S:=fun w'=>w'.heap[gn]?=some (.cells #[.int .u32 0,.int .u16 0] 65 (0,0))) (ds:=[]) #[false,false,false,false,false,false,false] (by kernel_rfl) rfl rfl cB.out (fun hHeld=> ?_);refine bH rR.R3.tab rR.R3.bits (fun az dW=> ?_);have ah:=bf (Below.refl w3.heap.size w3);replace HB:=mB HB ah;replace hU:=mX hU ah;replace ij:=mX ij ah;replace cB:=mX cB ah;clear ah;generalize w3.drew=w4 at HB hU ij cB hHeld|-
  refine tv 0 22 (.agg #[.int .u32 0,.int .u16 0]) az dW hHeld ?_ ?_
  ·intro w' s0
   exact br (p:= .tmp 7) (ty:=65) (by rfl) (by rfl) s0 iQ (by rfl) fL.out
  refine nz 22 ?_;refine tv 1 23 (.agg #[.int .u32 0,.int .u16 0]) az dW hHeld ?_ ?_
  ·intro w' s0
   exact br (p:= .tmp 7) (ty:=65) (by rfl) (by rfl) s0 iQ (by rfl) fL.out
  refine nz 23 ?_;refine oz 2 (none) az (fun K hK=> ?_);refine cC (by rfl) (by rfl) rfl rfl rfl hU.out fL.out rfl (by simp [Value.oneCell']) ?_;intro w5 hs_ ag;replace ij:=oN ag ij (bD fG);replace cB:=oN ag cB (bD ko);replace HB:=oB ag HB BL;clear ag;replace hU:=aa.mk hs_;clear hs_;refine hK.out _ _ cB.out (fun hHeld=> ?_);clear hK K;refine oz 3 (none) az (fun K hK=> ?_);refine cC (by rfl) (by rfl) rfl rfl rfl ij.out fL.out rfl (by simp [Value.oneCell']) ?_;intro w6 hs_ ag;replace hU:=oN ag hU fG;replace cB:=oN ag cB (bD kp);replace HB:=oB ag HB BM;clear ag;replace ij:=aa.mk hs_;clear hs_;refine hK.out _ _ cB.out (fun hHeld=> ?_);clear hK K;refine pz 4 4 az ?_;refine pz 5 5 az ?_;refine pz 6 6 az ?_;refine dz az ?_
  clear az dW hHeld
  (try dsimp only)
  go_wp2
  (try simp only [Exit.inBlock,Exit.then])
  refine bodyPost_ret (iR rfl _ _ _ _ _ _ _ _ (0,0) (0,0) _ _ rfl hU.out iQ rfl fL.out rfl ij.out iQ rfl fL.out) rfl ?_;exact ⟨by rw [qd (V0 Hj.out)];rfl,HB.out⟩
 ·have Hj:=aa.mk c1
  have d1:decide ((b.length:Int)<20)=false:=gO (by omega);have d2:decide (b.length<20)=false:=gO c1;obtain ⟨ad,hA⟩:=V1 HC (by omega);subst hA;have x0_:=Aom (cb HC HB) (by omega) E0;have q0:(0<b.length)=True:=eq_true (by omega);have q0_:((0:Int)<(b.length:Int))=True:=eq_true (by omega);clear c1
  by_cases c2:x0 / 16=4
  ·have Kc2:=aa.mk c2
   have e1:(x0 / 16==4)=true:=fH c2;have e2:(x0 / 16 !=4)=false:=bne_eq_false_iff_eq.2 c2;clear c2
   go_upto_region 5 with (fail)
   clear e1 e2 d1 d2 x0_
   by_cases c3:hd<20
   ·have Kc3:=aa.mk c3
    have d3:decide (hd<20)=true:=bS c3;clear c3
    (try dsimp only)
    go_upto_region 6 with (fail)
    refine dg (n:=7) (S:=fun w'=>w'.heap[gn]?=some (.cells #[.int .u32 0,.int .u16 0] 65 (0,0))) (ds:=[]) #[false,false,false,false,false,false,false] (by kernel_rfl) rfl rfl cB.out (fun hHeld=> ?_);refine bH rR.R6.tab rR.R6.bits (fun az dW=> ?_);have ah:=bf (Below.refl w3.heap.size w3);replace HB:=mB HB ah;replace hU:=mX hU ah;replace ij:=mX ij ah;replace cB:=mX cB ah;clear ah;generalize w3.drew=w4 at HB hU ij cB hHeld|-
    refine tv 0 39 (.agg #[.int .u32 0,.int .u16 0]) az dW hHeld ?_ ?_
    ·intro w' s0
     exact br (p:= .tmp 7) (ty:=65) (by rfl) (by rfl) s0 iQ (by rfl) fL.out
    refine nz 39 ?_;refine tv 1 40 (.agg #[.int .u32 0,.int .u16 0]) az dW hHeld ?_ ?_
    ·intro w' s0
     exact br (p:= .tmp 7) (ty:=65) (by rfl) (by rfl) s0 iQ (by rfl) fL.out
    refine nz 40 ?_;refine oz 2 (none) az (fun K hK=> ?_);refine cC (by rfl) (by rfl) rfl rfl rfl hU.out fL.out rfl (by simp [Value.oneCell']) ?_;intro w5 hs_ ag;replace ij:=oN ag ij (bD fG);replace cB:=oN ag cB (bD ko);replace HB:=oB ag HB BL;clear ag;replace hU:=aa.mk hs_;clear hs_;refine hK.out _ _ cB.out (fun hHeld=> ?_);clear hK K;refine oz 3 (none) az (fun K hK=> ?_);refine cC (by rfl) (by rfl) rfl rfl rfl ij.out fL.out rfl (by simp [Value.oneCell']) ?_;intro w6 hs_ ag;replace hU:=oN ag hU fG;replace cB:=oN ag cB (bD kp);replace HB:=oB ag HB BM;clear ag;replace ij:=aa.mk hs_;clear hs_;refine hK.out _ _ cB.out (fun hHeld=> ?_);clear hK K;refine pz 4 4 az ?_;refine pz 5 5 az ?_;refine pz 6 6 az ?_;refine dz az ?_
    clear az dW hHeld
    (try dsimp only)
    go_wp2
    (try simp only [Exit.inBlock,Exit.then])
    refine bodyPost_ret (iR rfl _ _ _ _ _ _ _ _ (0,0) (0,0) _ _ rfl hU.out iQ rfl fL.out rfl ij.out iQ rfl fL.out) rfl ?_;exact ⟨by rw [qd (S3 Hj.out (.inr (.inl (EH.out ▸ Kc3.out))))];rfl,HB.out⟩
   ·have Kc3:=aa.mk c3
    have d3:decide (hd<20)=false:=gO c3;clear c3
    by_cases c4:(b.length:Int)<h8
    ·have Kc4:=aa.mk c4
     have d4:decide ((b.length:Int)<h8)=true:=bS c4;clear c4
     (try dsimp only)
     go_upto_region 6 with (fail)
     refine dg (n:=7) (S:=fun w'=>w'.heap[gn]?=some (.cells #[.int .u32 0,.int .u16 0] 65 (0,0))) (ds:=[]) #[false,false,false,false,false,false,false] (by kernel_rfl) rfl rfl cB.out (fun hHeld=> ?_);refine bH rR.R6.tab rR.R6.bits (fun az dW=> ?_);have ah:=bf (Below.refl w3.heap.size w3);replace HB:=mB HB ah;replace hU:=mX hU ah;replace ij:=mX ij ah;replace cB:=mX cB ah;clear ah;generalize w3.drew=w4 at HB hU ij cB hHeld|-
     refine tv 0 39 (.agg #[.int .u32 0,.int .u16 0]) az dW hHeld ?_ ?_
     ·intro w' s0
      exact br (p:= .tmp 7) (ty:=65) (by rfl) (by rfl) s0 iQ (by rfl) fL.out
     refine nz 39 ?_;refine tv 1 40 (.agg #[.int .u32 0,.int .u16 0]) az dW hHeld ?_ ?_
     ·intro w' s0
      exact br (p:= .tmp 7) (ty:=65) (by rfl) (by rfl) s0 iQ (by rfl) fL.out
     refine nz 40 ?_;refine oz 2 (none) az (fun K hK=> ?_);refine cC (by rfl) (by rfl) rfl rfl rfl hU.out fL.out rfl (by simp [Value.oneCell']) ?_;intro w5 hs_ ag;replace ij:=oN ag ij (bD fG);replace cB:=oN ag cB (bD ko);replace HB:=oB ag HB BL;clear ag;replace hU:=aa.mk hs_;clear hs_;refine hK.out _ _ cB.out (fun hHeld=> ?_);clear hK K;refine oz 3 (none) az (fun K hK=> ?_);refine cC (by rfl) (by rfl) rfl rfl rfl ij.out fL.out rfl (by simp [Value.oneCell']) ?_;intro w6 hs_ ag;replace hU:=oN ag hU fG;replace cB:=oN ag cB (bD kp);replace HB:=oB ag HB BM;clear ag;replace ij:=aa.mk hs_;clear hs_;refine hK.out _ _ cB.out (fun hHeld=> ?_);clear hK K;refine pz 4 4 az ?_;refine pz 5 5 az ?_;refine pz 6 6 az ?_;refine dz az ?_
     clear az dW hHeld
     (try dsimp only)
     go_wp2
     (try simp only [Exit.inBlock,Exit.then])
     refine bodyPost_ret (iR rfl _ _ _ _ _ _ _ _ (0,0) (0,0) _ _ rfl hU.out iQ rfl fL.out rfl ij.out iQ rfl fL.out) rfl ?_;exact ⟨by rw [qd (S3 Hj.out (.inr (.inr (EH.out ▸ E8.out ▸ Kc4.out))))];rfl,HB.out⟩
    ·have Kc4:=aa.mk c4
     have d4:decide ((b.length:Int)<h8)=false:=gO c4;clear c4;have HG:=aa.mk (show (0:Int)<=hd /\ hd+8<=(b.length:Int) /\ hd=dV b from ⟨by have:=Kc3.out;omega,by have h1:=Kc4.out;rw [E8.out] at h1;omega,EH.out⟩);clear q0 q0_
     go_wp2_with fail
     refine (dL.calls _ _ b 12 (sy b 12) _ (cb HC HB).out HL.out (q8 Yo.out 12 (by have:=Hj.out;omega) (by have:=HN.out;omega))).mono ?_;rintro ev w_ ⟨rfl,⟨nd,rfl⟩⟩;have ah:=fe (Below.refl w3.heap.size w3) nd;replace HB:=mB HB ah;replace hU:=mX hU ah;replace ij:=mX ij ah;replace cB:=mX cB ah;clear ah;generalize w3.drewN nd=w4 at HB hU ij cB|-
     (try dsimp only)
     go_wp2_with fail
     refine (dL.calls _ _ b 16 (sy b 16) _ (cb HC HB).out HL.out (q8 Yo.out 16 (by have:=Hj.out;omega) (by have:=HN.out;omega))).mono ?_;rintro ev w_ ⟨rfl,⟨nd,rfl⟩⟩;have ah:=fe (Below.refl w4.heap.size w4) nd;replace HB:=mB HB ah;replace hU:=mX hU ah;replace ij:=mX ij ah;replace cB:=mX cB ah;clear ah;generalize w4.drewN nd=w5 at HB hU ij cB|-
     (try dsimp only)
     go_upto_region 8 with (first|((with_reducible refine aA (N:=9) rfl ?_);refine aC ?gJ (N:=9) ?iS (cs:= #[.int .u32 0,.int .u16 0]) (t:=65) ?fq ?_;(case iS=>rfl);(case gJ=>rfl);(case fq=>first|(go_simp;done)|(go_simp;rfl));intro gs cv w6 bJ cP;have Dc:=aa.mk (show w.heap.size<=gs by rw [cv];exact af HB.out);have cM:=aa.mk bJ;have jG:aa (ga≠gs):=⟨by rw [cv];exact (dJ hU).out⟩;have jH:aa (gb≠gs):=⟨by rw [cv];exact (dJ ij).out⟩;have sP:aa (gn≠gs):=⟨by rw [cv];exact (dJ cB).out⟩;have ah:=cP;replace HB:=mB HB ah;replace hU:=mX hU ah;replace ij:=mX ij ah;replace cB:=mX cB ah;clear ah;clear cv bJ cP)|((with_reducible refine aA (N:=10) rfl ?_);refine aC ?gJ (N:=10) ?iS (cs:= #[.int .u32 0,.int .u16 0]) (t:=65) ?fq ?_;(case iS=>rfl);(case gJ=>rfl);(case fq=>first|(go_simp;done)|(go_simp;rfl));intro gd cv w7 bJ cP;have Dd:=aa.mk (show w.heap.size<=gd by rw [cv];exact af HB.out);have cE:=aa.mk bJ;have jI:aa (ga≠gd):=⟨by rw [cv];exact (dJ hU).out⟩;have jJ:aa (gb≠gd):=⟨by rw [cv];exact (dJ ij).out⟩;have sQ:aa (gn≠gd):=⟨by rw [cv];exact (dJ cB).out⟩;have iG:aa (gs≠gd):=⟨by rw [cv];exact (dJ cM).out⟩;have ah:=cP;replace HB:=mB HB ah;replace hU:=mX hU ah;replace ij:=mX ij ah;replace cB:=mX cB ah;replace cM:=mX cM ah;clear ah;clear cv bJ cP)|((refine dO rfl rfl rfl rfl rfl cM.out fL.out rfl (by simp [Value.oneCell']) ?_);intro w8 hs_ ag;replace hU:=oN ag hU jG;replace ij:=oN ag ij jH;replace cB:=oN ag cB sP;replace cE:=oN ag cE (bD iG);replace HB:=oB ag HB Dc;clear ag;replace cM:=aa.mk hs_;clear hs_)|((refine dO rfl rfl rfl rfl rfl cE.out fL.out rfl (by simp [Value.oneCell']) ?_);intro w9 hs_ ag;replace hU:=oN ag hU jI;replace ij:=oN ag ij jJ;replace cB:=oN ag cB sQ;replace cM:=oN ag cM iG;replace HB:=oB ag HB Dd;clear ag;replace cE:=aa.mk hs_;clear hs_))
     have x9_:=V2 (cb HC HB) 9 9 rfl (by have:=Hj.out;omega) E9;simp only [show (9:Int).toNat=9 from rfl,Nat.reduceMul,Nat.reduceEqDiff,Go.Addr.add,↓reduceIte] at x9_
     have q9:(9<b.length)=True:=eq_true (by have:=Hj.out;omega);have q9_:((9:Int)<(b.length:Int))=True:=eq_true (by have:=Hj.out;omega)
     by_cases p17:x9=17
     ·have Ea:=aa.mk p17
      have e1:(x9==17)=true:=fH p17;clear p17
      go_upto_region 13 with (fail)
      clear x9_ q9 q9_
      go_wp2_with fail
      refine (aX.calls _ _ b hd (jQ b hd.toNat) _ (cb HC HB).out HL.out (by have h:=iC Yo.out hd.toNat (by have:=HG.out;omega) (by have:=HN.out;omega);rwa [Int.toNat_of_nonneg HG.out.1] at h)).mono ?_;rintro ev w_ ⟨rfl,⟨nd,rfl⟩⟩;have ah:=fe (Below.refl w9.heap.size w9) nd;replace HB:=mB HB ah;replace hU:=mX hU ah;replace ij:=mX ij ah;replace cB:=mX cB ah;replace cM:=mX cM ah;replace cE:=mX cE ah;clear ah;generalize w9.drewN nd=j4 at HB hU ij cB cM cE|-
      (try dsimp only)
      go_wp2_with fail
      refine (aX.calls _ _ b h2 (jQ b (hd.toNat+2)) _ (cb HC HB).out HL.out (by have h:=iC Yo.out (hd.toNat+2) (by have:=HG.out;omega) (by have:=HN.out;omega);rwa [show ((hd.toNat+2:Nat):Int)=h2 by have:=HG.out;have:=E2.out;omega] at h)).mono ?_;rintro ev w_ ⟨rfl,⟨nd,rfl⟩⟩;have ah:=fe (Below.refl j4.heap.size j4) nd;replace HB:=mB HB ah;replace hU:=mX hU ah;replace ij:=mX ij ah;replace cB:=mX cB ah;replace cM:=mX cM ah;replace cE:=mX cE ah;clear ah;generalize j4.drewN nd=qf at HB hU ij cB cM cE|-
      (try dsimp only)
      go_upto_region 19 with (first|((refine gQ rfl rfl (i:=1) (v:= .int .u16 (jQ b hd.toNat)) (cs':= #[.int .u32 (sy b 12),.int .u16 (jQ b hd.toNat)]) cM.out rfl ?fq ?_);(case fq=>(have m_:=(aE cM.out 1).trans (rfl:_=some (.int .u16 0:Value)));(have nY:=ae cM.out 1);first|(go_simp;done)|(go_simp;rfl));intro l5 hs_ ag;replace hU:=oN ag hU jG;replace ij:=oN ag ij jH;replace cB:=oN ag cB sP;replace cE:=oN ag cE (bD iG);replace HB:=oB ag HB Dc;clear ag;replace cM:=aa.mk hs_;clear hs_)|((refine gQ rfl rfl (i:=1) (v:= .int .u16 (jQ b (hd.toNat+2))) (cs':= #[.int .u32 (sy b 16),.int .u16 (jQ b (hd.toNat+2))]) cE.out rfl ?fq ?_);(case fq=>(have m_:=(aE cE.out 1).trans (rfl:_=some (.int .u16 0:Value)));(have nY:=ae cE.out 1);first|(go_simp;done)|(go_simp;rfl));intro sR hs_ ag;replace hU:=oN ag hU jI;replace ij:=oN ag ij jJ;replace cB:=oN ag cB sQ;replace cM:=oN ag cM iG;replace HB:=oB ag HB Dd;clear ag;replace cE:=aa.mk hs_;clear hs_))
      refine dg (n:=9) (S:=fun w'=>w'.heap[gs]?=some (.cells #[.int .u32 (sy b 12),.int .u16 (jQ b hd.toNat)] 65 (0,0)) /\ w'.heap[gd]?=some (.cells #[.int .u32 (sy b 16),.int .u16 (jQ b (hd.toNat+2))] 65 (0,0))) (ds:=[]) #[false,false,false,false,false,false,false,false,false] (by kernel_rfl) rfl rfl ⟨cM.out,cE.out⟩ (fun hHeld=> ?_);refine bH rR.Pf.tab rR.Pf.bits (fun az dW=> ?_);have ah:=bf (Below.refl sR.heap.size sR);replace HB:=mB HB ah;replace hU:=mX hU ah;replace ij:=mX ij ah;replace cB:=mX cB ah;replace cM:=mX cM ah;replace cE:=mX cE ah;clear ah;generalize sR.drew=qN at HB hU ij cB cM cE hHeld|-
      refine pz 2 99 az ?_;refine pz 3 100 az ?_;refine tv 0 97 (.agg #[.int .u32 (sy b 12),.int .u16 (jQ b hd.toNat)]) az dW hHeld ?_ ?_
      ·intro w' s0
       obtain ⟨s0,s1⟩:=s0;exact br (p:= .tmp 9) (ty:=65) (by rfl) (by rfl) s0 iQ (by rfl) fL.out
      refine nz 97 ?_;refine tv 1 98 (.agg #[.int .u32 (sy b 16),.int .u16 (jQ b (hd.toNat+2))]) az dW hHeld ?_ ?_
      ·intro w' s0
       obtain ⟨s0,s1⟩:=s0;exact br (p:= .tmp 10) (ty:=65) (by rfl) (by rfl) s1 iQ (by rfl) fL.out
      refine nz 98 ?_;refine oz 4 (none) az (fun K hK=> ?_);refine cC (by rfl) (by rfl) rfl rfl rfl hU.out fL.out rfl (by simp [Value.oneCell']) ?_;intro yE hs_ ag;replace ij:=oN ag ij (bD fG);replace cB:=oN ag cB (bD ko);replace cM:=oN ag cM (bD jG);replace cE:=oN ag cE (bD jI);replace HB:=oB ag HB BL;clear ag;replace hU:=aa.mk hs_;clear hs_;refine hK.out _ _ ⟨cM.out,cE.out⟩ (fun hHeld=> ?_);clear hK K;refine oz 5 (none) az (fun K hK=> ?_);refine cC (by rfl) (by rfl) rfl rfl rfl ij.out fL.out rfl (by simp [Value.oneCell']) ?_;intro qM hs_ ag;replace hU:=oN ag hU fG;replace cB:=oN ag cB (bD kp);replace cM:=oN ag cM (bD jH);replace cE:=oN ag cE (bD jJ);replace HB:=oB ag HB BM
      clear ag;replace ij:=aa.mk hs_;clear hs_;refine hK.out _ _ ⟨cM.out,cE.out⟩ (fun hHeld=> ?_);clear hK K;refine pz 6 4 az ?_;refine pz 7 5 az ?_;refine pz 8 6 az ?_;refine dz az ?_;clear az dW hHeld
      (try dsimp only)
      go_wp2
      (try simp only [Exit.inBlock,Exit.then])
      refine bodyPost_ret (iR rfl _ _ _ _ _ _ _ _ (0,0) (0,0) _ _ rfl hU.out iQ rfl fL.out rfl ij.out iQ rfl fL.out) rfl ?_;exact ⟨by rw [xu (AhE Hj.out (E0.out ▸ Kc2.out) (by have h1:=Kc3.out;have h2:=EH.out;omega) (by have h1:=Kc4.out;have h2:=EH.out;have h3:=E8.out;omega) (E9.out ▸ .inl Ea.out)),<- EH.out,<- E9.out];unfold qK;rw [ax (fun e_=>absurd (E9.out.trans e_) (by first|(rw [Ea.out];decide)|(rw [Tf.out];decide)))];rfl,HB.out⟩
     ·have Ea:=aa.mk p17
      by_cases p6:x9=6
      ·have Tf:=aa.mk p6
       have e1:(x9==6)=true:=fH p6;clear p6;have e0:(x9==17)=false:=fc Ea.out
       go_upto_region 13 with (fail)
       clear x9_ q9 q9_
       go_wp2_with fail
       refine (aX.calls _ _ b hd (jQ b hd.toNat) _ (cb HC HB).out HL.out (by have h:=iC Yo.out hd.toNat (by have:=HG.out;omega) (by have:=HN.out;omega);rwa [Int.toNat_of_nonneg HG.out.1] at h)).mono ?_;rintro ev w_ ⟨rfl,⟨nd,rfl⟩⟩;have ah:=fe (Below.refl w9.heap.size w9) nd;replace HB:=mB HB ah;replace hU:=mX hU ah;replace ij:=mX ij ah;replace cB:=mX cB ah;replace cM:=mX cM ah;replace cE:=mX cE ah;clear ah;generalize w9.drewN nd=j4 at HB hU ij cB cM cE|-
       (try dsimp only)
       go_wp2_with fail
       refine (aX.calls _ _ b h2 (jQ b (hd.toNat+2)) _ (cb HC HB).out HL.out (by have h:=iC Yo.out (hd.toNat+2) (by have:=HG.out;omega) (by have:=HN.out;omega);rwa [show ((hd.toNat+2:Nat):Int)=h2 by have:=HG.out;have:=E2.out;omega] at h)).mono ?_;rintro ev w_ ⟨rfl,⟨nd,rfl⟩⟩;have ah:=fe (Below.refl j4.heap.size j4) nd;replace HB:=mB HB ah;replace hU:=mX hU ah;replace ij:=mX ij ah;replace cB:=mX cB ah;replace cM:=mX cM ah;replace cE:=mX cE ah;clear ah;generalize j4.drewN nd=qf at HB hU ij cB cM cE|-
       (try dsimp only)
       go_upto_region 19 with (first|((refine gQ rfl rfl (i:=1) (v:= .int .u16 (jQ b hd.toNat)) (cs':= #[.int .u32 (sy b 12),.int .u16 (jQ b hd.toNat)]) cM.out rfl ?fq ?_);(case fq=>(have m_:=(aE cM.out 1).trans (rfl:_=some (.int .u16 0:Value)));(have nY:=ae cM.out 1);first|(go_simp;done)|(go_simp;rfl));intro l5 hs_ ag;replace hU:=oN ag hU jG;replace ij:=oN ag ij jH;replace cB:=oN ag cB sP;replace cE:=oN ag cE (bD iG);replace HB:=oB ag HB Dc;clear ag;replace cM:=aa.mk hs_;clear hs_)|((refine gQ rfl rfl (i:=1) (v:= .int .u16 (jQ b (hd.toNat+2))) (cs':= #[.int .u32 (sy b 16),.int .u16 (jQ b (hd.toNat+2))]) cE.out rfl ?fq ?_);(case fq=>(have m_:=(aE cE.out 1).trans (rfl:_=some (.int .u16 0:Value)));(have nY:=ae cE.out 1);first|(go_simp;done)|(go_simp;rfl));intro sR hs_ ag;replace hU:=oN ag hU jI;replace ij:=oN ag ij jJ;replace cB:=oN ag cB sQ;replace cM:=oN ag cM iG;replace HB:=oB ag HB Dd;clear ag;replace cE:=aa.mk hs_;clear hs_))
       refine dg (n:=9) (S:=fun w'=>w'.heap[gs]?=some (.cells #[.int .u32 (sy b 12),.int .u16 (jQ b hd.toNat)] 65 (0,0)) /\ w'.heap[gd]?=some (.cells #[.int .u32 (sy b 16),.int .u16 (jQ b (hd.toNat+2))] 65 (0,0))) (ds:=[]) #[false,false,false,false,false,false,false,false,false] (by kernel_rfl) rfl rfl ⟨cM.out,cE.out⟩ (fun hHeld=> ?_);refine bH rR.Pf.tab rR.Pf.bits (fun az dW=> ?_);have ah:=bf (Below.refl sR.heap.size sR);replace HB:=mB HB ah;replace hU:=mX hU ah;replace ij:=mX ij ah;replace cB:=mX cB ah;replace cM:=mX cM ah;replace cE:=mX cE ah;clear ah;generalize sR.drew=qN at HB hU ij cB cM cE hHeld|-
       refine pz 2 99 az ?_;refine pz 3 100 az ?_;refine tv 0 97 (.agg #[.int .u32 (sy b 12),.int .u16 (jQ b hd.toNat)]) az dW hHeld ?_ ?_
       ·intro w' s0
        obtain ⟨s0,s1⟩:=s0;exact br (p:= .tmp 9) (ty:=65) (by rfl) (by rfl) s0 iQ (by rfl) fL.out
       refine nz 97 ?_;refine tv 1 98 (.agg #[.int .u32 (sy b 16),.int .u16 (jQ b (hd.toNat+2))]) az dW hHeld ?_ ?_
       ·intro w' s0
        obtain ⟨s0,s1⟩:=s0;exact br (p:= .tmp 10) (ty:=65) (by rfl) (by rfl) s1 iQ (by rfl) fL.out
       refine nz 98 ?_;refine oz 4 (none) az (fun K hK=> ?_);refine cC (by rfl) (by rfl) rfl rfl rfl hU.out fL.out rfl (by simp [Value.oneCell']) ?_;intro yE hs_ ag;replace ij:=oN ag ij (bD fG);replace cB:=oN ag cB (bD ko);replace cM:=oN ag cM (bD jG);replace cE:=oN ag cE (bD jI);replace HB:=oB ag HB BL;clear ag;replace hU:=aa.mk hs_;clear hs_;refine hK.out _ _ ⟨cM.out,cE.out⟩ (fun hHeld=> ?_);clear hK K;refine oz 5 (none) az (fun K hK=> ?_);refine cC (by rfl) (by rfl) rfl rfl rfl ij.out fL.out rfl (by simp [Value.oneCell']) ?_;intro qM hs_ ag;replace hU:=oN ag hU fG;replace cB:=oN ag cB (bD kp);replace cM:=oN ag cM (bD jH);replace cE:=oN ag cE (bD jJ);replace HB:=oB ag HB BM
       clear ag;replace ij:=aa.mk hs_;clear hs_;refine hK.out _ _ ⟨cM.out,cE.out⟩ (fun hHeld=> ?_);clear hK K;refine pz 6 4 az ?_;refine pz 7 5 az ?_;refine pz 8 6 az ?_;refine dz az ?_;clear az dW hHeld
       (try dsimp only)
       go_wp2
       (try simp only [Exit.inBlock,Exit.then])
       refine bodyPost_ret (iR rfl _ _ _ _ _ _ _ _ (0,0) (0,0) _ _ rfl hU.out iQ rfl fL.out rfl ij.out iQ rfl fL.out) rfl ?_;exact ⟨by rw [xu (AhE Hj.out (E0.out ▸ Kc2.out) (by have h1:=Kc3.out;have h2:=EH.out;omega) (by have h1:=Kc4.out;have h2:=EH.out;have h3:=E8.out;omega) (E9.out ▸ .inr Tf.out)),<- EH.out,<- E9.out];unfold qK;rw [ax (fun e_=>absurd (E9.out.trans e_) (by first|(rw [Ea.out];decide)|(rw [Tf.out];decide)))];rfl,HB.out⟩
      ·have Tf:=aa.mk p6
       by_cases p1:x9=1
       ·have Kp1:=aa.mk p1
        have e1:(x9==1)=true:=fH p1;clear p1;have e0:(x9==17)=false:=fc Ea.out;have e6:(x9==6)=false:=fc Tf.out
        (try dsimp only)
        go_upto_region 15 with (fail)
        clear x9_ q9 q9_ e0 e1 e6;have y0_:=V2 (cb HC HB) hd hd.toNat (Int.toNat_of_nonneg HG.out.1).symm (by have:=HG.out;omega) ET;have y1_:=V2 (cb HC HB) h1 (hd.toNat+1) (by have:=HG.out;have:=E1.out;omega) (by have:=HG.out;omega) EC;have q1:(0<=hd)=True:=eq_true HG.out.1;have q2:(hd<(b.length:Int))=True:=eq_true (by have:=HG.out;omega);have q3:(0<=h1)=True:=eq_true (by have:=HG.out;have:=E1.out;omega);have q4:(h1<(b.length:Int))=True:=eq_true (by have:=HG.out;have:=E1.out;omega);have hh1:=E1w.out
        by_cases s8:y0=8
        ·have Ks8:=aa.mk s8
         have t8:(y0==8)=true:=fH s8;have t8n:(y0 !=8)=false:=by rw [bne,t8];rfl
         clear s8
         by_cases s1:y1=0
         ·have Ks1:=aa.mk s1
          have u0:(y1==0)=true:=fH s1;have u1:(y1 !=0)=false:=by rw [bne,u0];rfl
          clear s1
          (try dsimp only)
          go_upto_region 17 with (fail)
          clear u0 u1;clear t8 t8n y0_ y1_ q1 q2 q3 q4 hh1
          go_wp2_with fail
          refine (aX.calls _ _ b h4 (jQ b (hd.toNat+4)) _ (cb HC HB).out HL.out (by have h:=iC Yo.out (hd.toNat+4) (by have:=HG.out;omega) (by have:=HN.out;omega);rwa [show ((hd.toNat+4:Nat):Int)=h4 by have:=HG.out;have:=E4.out;omega] at h)).mono ?_;rintro ev w_ ⟨rfl,⟨nd,rfl⟩⟩;have ah:=fe (Below.refl w9.heap.size w9) nd;replace HB:=mB HB ah;replace hU:=mX hU ah;replace ij:=mX ij ah;replace cB:=mX cB ah;replace cM:=mX cM ah;replace cE:=mX cE ah;clear ah;generalize w9.drewN nd=j4 at HB hU ij cB cM cE|-
          (try dsimp only)
          go_upto_region 18 with (((refine gQ rfl rfl (i:=1) (v:= .int .u16 (jQ b (hd.toNat+4))) (cs':= #[.int .u32 (sy b 12),.int .u16 (jQ b (hd.toNat+4))]) cM.out rfl ?fq ?_);(case fq=>(have m_:=(aE cM.out 1).trans (rfl:_=some (.int .u16 0:Value)));(have nY:=ae cM.out 1);first|(go_simp;done)|(go_simp;rfl));intro qf hs_ ag;replace hU:=oN ag hU jG;replace ij:=oN ag ij jH;replace cB:=oN ag cB sP;replace cE:=oN ag cE (bD iG);replace HB:=oB ag HB Dc;clear ag;replace cM:=aa.mk hs_;clear hs_))
          have Ep:=cz cM.out 1 rfl
          go_upto_region 19 with (((refine gQ rfl rfl (i:=1) (v:= .int .u16 (jQ b (hd.toNat+4))) (cs':= #[.int .u32 (sy b 16),.int .u16 (jQ b (hd.toNat+4))]) cE.out rfl ?fq ?_);(case fq=>(have m_:=(aE cE.out 1).trans (rfl:_=some (.int .u16 0:Value)));(have nY:=ae cE.out 1);first|(go_simp;done)|(go_simp;rfl));intro l5 hs_ ag;replace hU:=oN ag hU jI;replace ij:=oN ag ij jJ;replace cB:=oN ag cB sQ;replace cM:=oN ag cM iG;replace HB:=oB ag HB Dd;clear ag;replace cE:=aa.mk hs_;clear hs_))
          clear Ep;refine dg (n:=9) (S:=fun w'=>w'.heap[gs]?=some (.cells #[.int .u32 (sy b 12),.int .u16 (jQ b (hd.toNat+4))] 65 (0,0)) /\ w'.heap[gd]?=some (.cells #[.int .u32 (sy b 16),.int .u16 (jQ b (hd.toNat+4))] 65 (0,0))) (ds:=[]) #[false,false,false,false,false,false,false,false,false] (by kernel_rfl) rfl rfl ⟨cM.out,cE.out⟩ (fun hHeld=> ?_);refine bH rR.Pf.tab rR.Pf.bits (fun az dW=> ?_);have ah:=bf (Below.refl l5.heap.size l5);replace HB:=mB HB ah;replace hU:=mX hU ah;replace ij:=mX ij ah;replace cB:=mX cB ah;replace cM:=mX cM ah;replace cE:=mX cE ah;clear ah;generalize l5.drew=sR at HB hU ij cB cM cE hHeld|-
          refine pz 2 99 az ?_;refine pz 3 100 az ?_;refine tv 0 97 (.agg #[.int .u32 (sy b 12),.int .u16 (jQ b (hd.toNat+4))]) az dW hHeld ?_ ?_
          ·intro w' s0
           obtain ⟨s0,s1⟩:=s0;exact br (p:= .tmp 9) (ty:=65) (by rfl) (by rfl) s0 iQ (by rfl) fL.out
          refine nz 97 ?_;refine tv 1 98 (.agg #[.int .u32 (sy b 16),.int .u16 (jQ b (hd.toNat+4))]) az dW hHeld ?_ ?_
          ·intro w' s0
           obtain ⟨s0,s1⟩:=s0;exact br (p:= .tmp 10) (ty:=65) (by rfl) (by rfl) s1 iQ (by rfl) fL.out
          refine nz 98 ?_;refine oz 4 (none) az (fun K hK=> ?_);refine cC (by rfl) (by rfl) rfl rfl rfl hU.out fL.out rfl (by simp [Value.oneCell']) ?_;intro qN hs_ ag;replace ij:=oN ag ij (bD fG);replace cB:=oN ag cB (bD ko);replace cM:=oN ag cM (bD jG);replace cE:=oN ag cE (bD jI);replace HB:=oB ag HB BL;clear ag;replace hU:=aa.mk hs_;clear hs_;refine hK.out _ _ ⟨cM.out,cE.out⟩ (fun hHeld=> ?_);clear hK K;refine oz 5 (none) az (fun K hK=> ?_);refine cC (by rfl) (by rfl) rfl rfl rfl ij.out fL.out rfl (by simp [Value.oneCell']) ?_;intro yE hs_ ag;replace hU:=oN ag hU fG;replace cB:=oN ag cB (bD kp);replace cM:=oN ag cM (bD jH);replace cE:=oN ag cE (bD jJ);replace HB:=oB ag HB BM
          clear ag;replace ij:=aa.mk hs_;clear hs_;refine hK.out _ _ ⟨cM.out,cE.out⟩ (fun hHeld=> ?_);clear hK K;refine pz 6 4 az ?_;refine pz 7 5 az ?_;refine pz 8 6 az ?_;refine dz az ?_;clear az dW hHeld
          (try dsimp only)
          go_wp2
          (try simp only [Exit.inBlock,Exit.then])
          refine bodyPost_ret (iR rfl _ _ _ _ _ _ _ _ (0,0) (0,0) _ _ rfl hU.out iQ rfl fL.out rfl ij.out iQ rfl fL.out) rfl ?_;exact ⟨by rw [xu (S4 Hj.out (E0.out ▸ Kc2.out) (by have h1:=Kc3.out;have h2:=EH.out;omega) (by have h1:=Kc4.out;have h2:=EH.out;have h3:=E8.out;omega) (E9.out ▸ Kp1.out) (by rw [<- EH.out,<- ET.out,<- EC.out,Ks1.out];unfold rm;rw [Ks8.out];rfl)),<- EH.out,<- E9.out];unfold qK;rw [au (E9.out ▸ Kp1.out)];rfl,HB.out⟩
         ·have Ks1:=aa.mk s1
          have u0:(y1==0)=false:=fc s1;have u1:(y1 !=0)=true:=by rw [bne,u0];rfl
          clear s1
          (try dsimp only)
          go_upto_region 16 with (fail)
          refine dg (n:=7) (S:=fun w'=>w'.heap[gn]?=some (.cells #[.int .u32 0,.int .u16 0] 65 (0,0))) (ds:=[]) #[false,false,false,false,false,false,false] (by kernel_rfl) rfl rfl cB.out (fun hHeld=> ?_);refine bH rR.Cc.tab rR.Cc.bits (fun az dW=> ?_);have ah:=bf (Below.refl w9.heap.size w9);replace HB:=mB HB ah;replace hU:=mX hU ah;replace ij:=mX ij ah;replace cB:=mX cB ah;replace cM:=mX cM ah;replace cE:=mX cE ah;clear ah;generalize w9.drew=j4 at HB hU ij cB cM cE hHeld|-
          refine tv 0 87 (.agg #[.int .u32 0,.int .u16 0]) az dW hHeld ?_ ?_
          ·intro w' s0
           exact br (p:= .tmp 7) (ty:=65) (by rfl) (by rfl) s0 iQ (by rfl) fL.out
          refine nz 87 ?_;refine tv 1 88 (.agg #[.int .u32 0,.int .u16 0]) az dW hHeld ?_ ?_
          ·intro w' s0
           exact br (p:= .tmp 7) (ty:=65) (by rfl) (by rfl) s0 iQ (by rfl) fL.out
          refine nz 88 ?_;refine oz 2 (none) az (fun K hK=> ?_);refine cC (by rfl) (by rfl) rfl rfl rfl hU.out fL.out rfl (by simp [Value.oneCell']) ?_;intro qf hs_ ag;replace ij:=oN ag ij (bD fG);replace cB:=oN ag cB (bD ko);replace cM:=oN ag cM (bD jG);replace cE:=oN ag cE (bD jI);replace HB:=oB ag HB BL;clear ag;replace hU:=aa.mk hs_;clear hs_;refine hK.out _ _ cB.out (fun hHeld=> ?_);clear hK K;refine oz 3 (none) az (fun K hK=> ?_);refine cC (by rfl) (by rfl) rfl rfl rfl ij.out fL.out rfl (by simp [Value.oneCell']) ?_;intro l5 hs_ ag;replace hU:=oN ag hU fG;replace cB:=oN ag cB (bD kp);replace cM:=oN ag cM (bD jH);replace cE:=oN ag cE (bD jJ);replace HB:=oB ag HB BM
          clear ag;replace ij:=aa.mk hs_;clear hs_;refine hK.out _ _ cB.out (fun hHeld=> ?_);clear hK K;refine pz 4 4 az ?_;refine pz 5 5 az ?_;refine pz 6 6 az ?_;refine dz az ?_;clear az dW hHeld
          (try dsimp only)
          go_wp2
          (try simp only [Exit.inBlock,Exit.then])
          refine bodyPost_ret (iR rfl _ _ _ _ _ _ _ _ (0,0) (0,0) _ _ rfl hU.out iQ rfl fL.out rfl ij.out iQ rfl fL.out) rfl ?_;exact ⟨by rw [qd (Hg Hj.out (E9.out ▸ Ea.out) (E9.out ▸ Tf.out) (by rw [<- EH.out,<- ET.out,<- EC.out];unfold rm;rw [fc Ks1.out,Bool.and_false]))];rfl,HB.out⟩
        ·have Ks8:=aa.mk s8
         have t8:(y0==8)=false:=fc s8;have t8n:(y0 !=8)=true:=by rw [bne,t8];rfl
         clear s8
         by_cases s0:y0=0
         ·have Ks0:=aa.mk s0
          have t0:(y0==0)=true:=fH s0;have t0n:(y0 !=0)=false:=by rw [bne,t0];rfl
          clear s0
          by_cases s1:y1=0
          ·have Ks1:=aa.mk s1
           have u0:(y1==0)=true:=fH s1;have u1:(y1 !=0)=false:=by rw [bne,u0];rfl
           clear s1
           (try dsimp only)
           go_upto_region 17 with (fail)
           clear t0 t0n u0 u1;clear t8 t8n y0_ y1_ q1 q2 q3 q4 hh1
           go_wp2_with fail
           refine (aX.calls _ _ b h4 (jQ b (hd.toNat+4)) _ (cb HC HB).out HL.out (by have h:=iC Yo.out (hd.toNat+4) (by have:=HG.out;omega) (by have:=HN.out;omega);rwa [show ((hd.toNat+4:Nat):Int)=h4 by have:=HG.out;have:=E4.out;omega] at h)).mono ?_;rintro ev w_ ⟨rfl,⟨nd,rfl⟩⟩;have ah:=fe (Below.refl w9.heap.size w9) nd;replace HB:=mB HB ah;replace hU:=mX hU ah;replace ij:=mX ij ah;replace cB:=mX cB ah;replace cM:=mX cM ah;replace cE:=mX cE ah;clear ah;generalize w9.drewN nd=j4 at HB hU ij cB cM cE|-
           (try dsimp only)
           go_upto_region 18 with (((refine gQ rfl rfl (i:=1) (v:= .int .u16 (jQ b (hd.toNat+4))) (cs':= #[.int .u32 (sy b 12),.int .u16 (jQ b (hd.toNat+4))]) cM.out rfl ?fq ?_);(case fq=>(have m_:=(aE cM.out 1).trans (rfl:_=some (.int .u16 0:Value)));(have nY:=ae cM.out 1);first|(go_simp;done)|(go_simp;rfl));intro qf hs_ ag;replace hU:=oN ag hU jG;replace ij:=oN ag ij jH;replace cB:=oN ag cB sP;replace cE:=oN ag cE (bD iG);replace HB:=oB ag HB Dc;clear ag;replace cM:=aa.mk hs_;clear hs_))
           have Ep:=cz cM.out 1 rfl
           go_upto_region 19 with (((refine gQ rfl rfl (i:=1) (v:= .int .u16 (jQ b (hd.toNat+4))) (cs':= #[.int .u32 (sy b 16),.int .u16 (jQ b (hd.toNat+4))]) cE.out rfl ?fq ?_);(case fq=>(have m_:=(aE cE.out 1).trans (rfl:_=some (.int .u16 0:Value)));(have nY:=ae cE.out 1);first|(go_simp;done)|(go_simp;rfl));intro l5 hs_ ag;replace hU:=oN ag hU jI;replace ij:=oN ag ij jJ;replace cB:=oN ag cB sQ;replace cM:=oN ag cM iG;replace HB:=oB ag HB Dd;clear ag;replace cE:=aa.mk hs_;clear hs_))
           clear Ep;refine dg (n:=9) (S:=fun w'=>w'.heap[gs]?=some (.cells #[.int .u32 (sy b 12),.int .u16 (jQ b (hd.toNat+4))] 65 (0,0)) /\ w'.heap[gd]?=some (.cells #[.int .u32 (sy b 16),.int .u16 (jQ b (hd.toNat+4))] 65 (0,0))) (ds:=[]) #[false,false,false,false,false,false,false,false,false] (by kernel_rfl) rfl rfl ⟨cM.out,cE.out⟩ (fun hHeld=> ?_);refine bH rR.Pf.tab rR.Pf.bits (fun az dW=> ?_);have ah:=bf (Below.refl l5.heap.size l5);replace HB:=mB HB ah;replace hU:=mX hU ah;replace ij:=mX ij ah;replace cB:=mX cB ah;replace cM:=mX cM ah;replace cE:=mX cE ah;clear ah;generalize l5.drew=sR at HB hU ij cB cM cE hHeld|-
           refine pz 2 99 az ?_;refine pz 3 100 az ?_;refine tv 0 97 (.agg #[.int .u32 (sy b 12),.int .u16 (jQ b (hd.toNat+4))]) az dW hHeld ?_ ?_
           ·intro w' s0
            obtain ⟨s0,s1⟩:=s0;exact br (p:= .tmp 9) (ty:=65) (by rfl) (by rfl) s0 iQ (by rfl) fL.out
           refine nz 97 ?_;refine tv 1 98 (.agg #[.int .u32 (sy b 16),.int .u16 (jQ b (hd.toNat+4))]) az dW hHeld ?_ ?_
           ·intro w' s0
            obtain ⟨s0,s1⟩:=s0;exact br (p:= .tmp 10) (ty:=65) (by rfl) (by rfl) s1 iQ (by rfl) fL.out
           refine nz 98 ?_;refine oz 4 (none) az (fun K hK=> ?_);refine cC (by rfl) (by rfl) rfl rfl rfl hU.out fL.out rfl (by simp [Value.oneCell']) ?_;intro qN hs_ ag;replace ij:=oN ag ij (bD fG);replace cB:=oN ag cB (bD ko);replace cM:=oN ag cM (bD jG);replace cE:=oN ag cE (bD jI);replace HB:=oB ag HB BL;clear ag;replace hU:=aa.mk hs_;clear hs_;refine hK.out _ _ ⟨cM.out,cE.out⟩ (fun hHeld=> ?_);clear hK K;refine oz 5 (none) az (fun K hK=> ?_);refine cC (by rfl) (by rfl) rfl rfl rfl ij.out fL.out rfl (by simp [Value.oneCell']) ?_;intro yE hs_ ag;replace hU:=oN ag hU fG;replace cB:=oN ag cB (bD kp);replace cM:=oN ag cM (bD jH);replace cE:=oN ag cE (bD jJ)
           replace HB:=oB ag HB BM;clear ag;replace ij:=aa.mk hs_;clear hs_;refine hK.out _ _ ⟨cM.out,cE.out⟩ (fun hHeld=> ?_);clear hK K;refine pz 6 4 az ?_;refine pz 7 5 az ?_;refine pz 8 6 az ?_;refine dz az ?_;clear az dW hHeld
           (try dsimp only)
           go_wp2
           (try simp only [Exit.inBlock,Exit.then])
           refine bodyPost_ret (iR rfl _ _ _ _ _ _ _ _ (0,0) (0,0) _ _ rfl hU.out iQ rfl fL.out rfl ij.out iQ rfl fL.out) rfl ?_;exact ⟨by rw [xu (S4 Hj.out (E0.out ▸ Kc2.out) (by have h1:=Kc3.out;have h2:=EH.out;omega) (by have h1:=Kc4.out;have h2:=EH.out;have h3:=E8.out;omega) (E9.out ▸ Kp1.out) (by rw [<- EH.out,<- ET.out,<- EC.out,Ks1.out];unfold rm;rw [fc Ks8.out,Ks0.out];rfl)),<- EH.out,<- E9.out];unfold qK;rw [au (E9.out ▸ Kp1.out)];rfl,HB.out⟩
          ·have Ks1:=aa.mk s1
           have u0:(y1==0)=false:=fc s1;have u1:(y1 !=0)=true:=by rw [bne,u0];rfl
           clear s1
           (try dsimp only)
           go_upto_region 16 with (fail)
           refine dg (n:=7) (S:=fun w'=>w'.heap[gn]?=some (.cells #[.int .u32 0,.int .u16 0] 65 (0,0))) (ds:=[]) #[false,false,false,false,false,false,false] (by kernel_rfl) rfl rfl cB.out (fun hHeld=> ?_);refine bH rR.Cc.tab rR.Cc.bits (fun az dW=> ?_);have ah:=bf (Below.refl w9.heap.size w9);replace HB:=mB HB ah;replace hU:=mX hU ah;replace ij:=mX ij ah;replace cB:=mX cB ah;replace cM:=mX cM ah;replace cE:=mX cE ah;clear ah;generalize w9.drew=j4 at HB hU ij cB cM cE hHeld|-
           refine tv 0 87 (.agg #[.int .u32 0,.int .u16 0]) az dW hHeld ?_ ?_
           ·intro w' s0
            exact br (p:= .tmp 7) (ty:=65) (by rfl) (by rfl) s0 iQ (by rfl) fL.out
           refine nz 87 ?_;refine tv 1 88 (.agg #[.int .u32 0,.int .u16 0]) az dW hHeld ?_ ?_
           ·intro w' s0
            exact br (p:= .tmp 7) (ty:=65) (by rfl) (by rfl) s0 iQ (by rfl) fL.out
           refine nz 88 ?_;refine oz 2 (none) az (fun K hK=> ?_);refine cC (by rfl) (by rfl) rfl rfl rfl hU.out fL.out rfl (by simp [Value.oneCell']) ?_;intro qf hs_ ag;replace ij:=oN ag ij (bD fG);replace cB:=oN ag cB (bD ko);replace cM:=oN ag cM (bD jG);replace cE:=oN ag cE (bD jI);replace HB:=oB ag HB BL;clear ag;replace hU:=aa.mk hs_;clear hs_;refine hK.out _ _ cB.out (fun hHeld=> ?_);clear hK K;refine oz 3 (none) az (fun K hK=> ?_);refine cC (by rfl) (by rfl) rfl rfl rfl ij.out fL.out rfl (by simp [Value.oneCell']) ?_;intro l5 hs_ ag;replace hU:=oN ag hU fG;replace cB:=oN ag cB (bD kp);replace cM:=oN ag cM (bD jH);replace cE:=oN ag cE (bD jJ);replace HB:=oB ag HB BM
           clear ag;replace ij:=aa.mk hs_;clear hs_;refine hK.out _ _ cB.out (fun hHeld=> ?_);clear hK K;refine pz 4 4 az ?_;refine pz 5 5 az ?_;refine pz 6 6 az ?_;refine dz az ?_;clear az dW hHeld
           (try dsimp only)
           go_wp2
           (try simp only [Exit.inBlock,Exit.then])
           refine bodyPost_ret (iR rfl _ _ _ _ _ _ _ _ (0,0) (0,0) _ _ rfl hU.out iQ rfl fL.out rfl ij.out iQ rfl fL.out) rfl ?_;exact ⟨by rw [qd (Hg Hj.out (E9.out ▸ Ea.out) (E9.out ▸ Tf.out) (by rw [<- EH.out,<- ET.out,<- EC.out];unfold rm;rw [fc Ks1.out,Bool.and_false]))];rfl,HB.out⟩
         ·have Ks0:=aa.mk s0
          have t0:(y0==0)=false:=fc s0;have t0n:(y0 !=0)=true:=by rw [bne,t0];rfl
          clear s0
          (try dsimp only)
          go_upto_region 16 with (fail)
          refine dg (n:=7) (S:=fun w'=>w'.heap[gn]?=some (.cells #[.int .u32 0,.int .u16 0] 65 (0,0))) (ds:=[]) #[false,false,false,false,false,false,false] (by kernel_rfl) rfl rfl cB.out (fun hHeld=> ?_);refine bH rR.Cc.tab rR.Cc.bits (fun az dW=> ?_);have ah:=bf (Below.refl w9.heap.size w9);replace HB:=mB HB ah;replace hU:=mX hU ah;replace ij:=mX ij ah;replace cB:=mX cB ah;replace cM:=mX cM ah;replace cE:=mX cE ah;clear ah;generalize w9.drew=j4 at HB hU ij cB cM cE hHeld|-
          refine tv 0 87 (.agg #[.int .u32 0,.int .u16 0]) az dW hHeld ?_ ?_
          ·intro w' s0
           exact br (p:= .tmp 7) (ty:=65) (by rfl) (by rfl) s0 iQ (by rfl) fL.out
          refine nz 87 ?_;refine tv 1 88 (.agg #[.int .u32 0,.int .u16 0]) az dW hHeld ?_ ?_
          ·intro w' s0
           exact br (p:= .tmp 7) (ty:=65) (by rfl) (by rfl) s0 iQ (by rfl) fL.out
          refine nz 88 ?_;refine oz 2 (none) az (fun K hK=> ?_);refine cC (by rfl) (by rfl) rfl rfl rfl hU.out fL.out rfl (by simp [Value.oneCell']) ?_;intro qf hs_ ag;replace ij:=oN ag ij (bD fG);replace cB:=oN ag cB (bD ko);replace cM:=oN ag cM (bD jG);replace cE:=oN ag cE (bD jI);replace HB:=oB ag HB BL;clear ag;replace hU:=aa.mk hs_;clear hs_;refine hK.out _ _ cB.out (fun hHeld=> ?_);clear hK K;refine oz 3 (none) az (fun K hK=> ?_);refine cC (by rfl) (by rfl) rfl rfl rfl ij.out fL.out rfl (by simp [Value.oneCell']) ?_;intro l5 hs_ ag;replace hU:=oN ag hU fG;replace cB:=oN ag cB (bD kp);replace cM:=oN ag cM (bD jH);replace cE:=oN ag cE (bD jJ);replace HB:=oB ag HB BM
          clear ag;replace ij:=aa.mk hs_;clear hs_;refine hK.out _ _ cB.out (fun hHeld=> ?_);clear hK K;refine pz 4 4 az ?_;refine pz 5 5 az ?_;refine pz 6 6 az ?_;refine dz az ?_;clear az dW hHeld
          (try dsimp only)
          go_wp2
          (try simp only [Exit.inBlock,Exit.then])
          refine bodyPost_ret (iR rfl _ _ _ _ _ _ _ _ (0,0) (0,0) _ _ rfl hU.out iQ rfl fL.out rfl ij.out iQ rfl fL.out) rfl ?_;exact ⟨by rw [qd (Hg Hj.out (E9.out ▸ Ea.out) (E9.out ▸ Tf.out) (by rw [<- EH.out,<- ET.out,<- EC.out];unfold rm;rw [fc Ks8.out,fc Ks0.out];rfl))];rfl,HB.out⟩
       ·have Kp1:=aa.mk p1
        have e1:(x9==1)=false:=fc p1;clear p1;have e0:(x9==17)=false:=fc Ea.out;have e6:(x9==6)=false:=fc Tf.out
        (try dsimp only)
        go_upto_region 10 with (fail)
        refine dg (n:=7) (S:=fun w'=>w'.heap[gn]?=some (.cells #[.int .u32 0,.int .u16 0] 65 (0,0))) (ds:=[]) #[false,false,false,false,false,false,false] (by kernel_rfl) rfl rfl cB.out (fun hHeld=> ?_);refine bH rR.Og.tab rR.Og.bits (fun az dW=> ?_);have ah:=bf (Below.refl w9.heap.size w9);replace HB:=mB HB ah;replace hU:=mX hU ah;replace ij:=mX ij ah;replace cB:=mX cB ah;replace cM:=mX cM ah;replace cE:=mX cE ah;clear ah;generalize w9.drew=j4 at HB hU ij cB cM cE hHeld|-
        refine tv 0 51 (.agg #[.int .u32 0,.int .u16 0]) az dW hHeld ?_ ?_
        ·intro w' s0
         exact br (p:= .tmp 7) (ty:=65) (by rfl) (by rfl) s0 iQ (by rfl) fL.out
        refine nz 51 ?_;refine tv 1 52 (.agg #[.int .u32 0,.int .u16 0]) az dW hHeld ?_ ?_
        ·intro w' s0
         exact br (p:= .tmp 7) (ty:=65) (by rfl) (by rfl) s0 iQ (by rfl) fL.out
        refine nz 52 ?_;refine oz 2 (none) az (fun K hK=> ?_);refine cC (by rfl) (by rfl) rfl rfl rfl hU.out fL.out rfl (by simp [Value.oneCell']) ?_;intro qf hs_ ag;replace ij:=oN ag ij (bD fG);replace cB:=oN ag cB (bD ko);replace cM:=oN ag cM (bD jG);replace cE:=oN ag cE (bD jI);replace HB:=oB ag HB BL;clear ag;replace hU:=aa.mk hs_;clear hs_;refine hK.out _ _ cB.out (fun hHeld=> ?_);clear hK K;refine oz 3 (none) az (fun K hK=> ?_);refine cC (by rfl) (by rfl) rfl rfl rfl ij.out fL.out rfl (by simp [Value.oneCell']) ?_;intro l5 hs_ ag;replace hU:=oN ag hU fG;replace cB:=oN ag cB (bD kp);replace cM:=oN ag cM (bD jH);replace cE:=oN ag cE (bD jJ);replace HB:=oB ag HB BM;clear ag
        replace ij:=aa.mk hs_;clear hs_;refine hK.out _ _ cB.out (fun hHeld=> ?_);clear hK K;refine pz 4 4 az ?_;refine pz 5 5 az ?_;refine pz 6 6 az ?_;refine dz az ?_;clear az dW hHeld
        (try dsimp only)
        go_wp2
        (try simp only [Exit.inBlock,Exit.then])
        refine bodyPost_ret (iR rfl _ _ _ _ _ _ _ _ (0,0) (0,0) _ _ rfl hU.out iQ rfl fL.out rfl ij.out iQ rfl fL.out) rfl ?_;exact ⟨by rw [qd (AhF Hj.out (E9.out ▸ Ea.out) (E9.out ▸ Tf.out) (E9.out ▸ Kp1.out))];rfl,HB.out⟩
  ·have Kc2:=aa.mk c2
   have e1:(x0 / 16==4)=false:=fc c2;have e2:(x0 / 16 !=4)=true:=bne_iff_ne.2 c2;clear c2
   (try dsimp only)
   go_upto_region 3 with (fail)
   refine dg (n:=7) (S:=fun w'=>w'.heap[gn]?=some (.cells #[.int .u32 0,.int .u16 0] 65 (0,0))) (ds:=[]) #[false,false,false,false,false,false,false] (by kernel_rfl) rfl rfl cB.out (fun hHeld=> ?_);refine bH rR.R3.tab rR.R3.bits (fun az dW=> ?_);have ah:=bf (Below.refl w3.heap.size w3);replace HB:=mB HB ah;replace hU:=mX hU ah;replace ij:=mX ij ah;replace cB:=mX cB ah;clear ah;generalize w3.drew=w4 at HB hU ij cB hHeld|-
   refine tv 0 22 (.agg #[.int .u32 0,.int .u16 0]) az dW hHeld ?_ ?_
   ·intro w' s0
    exact br (p:= .tmp 7) (ty:=65) (by rfl) (by rfl) s0 iQ (by rfl) fL.out
   refine nz 22 ?_;refine tv 1 23 (.agg #[.int .u32 0,.int .u16 0]) az dW hHeld ?_ ?_
   ·intro w' s0
    exact br (p:= .tmp 7) (ty:=65) (by rfl) (by rfl) s0 iQ (by rfl) fL.out
   refine nz 23 ?_;refine oz 2 (none) az (fun K hK=> ?_);refine cC (by rfl) (by rfl) rfl rfl rfl hU.out fL.out rfl (by simp [Value.oneCell']) ?_;intro w5 hs_ ag;replace ij:=oN ag ij (bD fG);replace cB:=oN ag cB (bD ko);replace HB:=oB ag HB BL;clear ag;replace hU:=aa.mk hs_;clear hs_;refine hK.out _ _ cB.out (fun hHeld=> ?_);clear hK K;refine oz 3 (none) az (fun K hK=> ?_);refine cC (by rfl) (by rfl) rfl rfl rfl ij.out fL.out rfl (by simp [Value.oneCell']) ?_;intro w6 hs_ ag;replace hU:=oN ag hU fG;replace cB:=oN ag cB (bD kp);replace HB:=oB ag HB BM;clear ag;replace ij:=aa.mk hs_;clear hs_;refine hK.out _ _ cB.out (fun hHeld=> ?_);clear hK K;refine pz 4 4 az ?_;refine pz 5 5 az ?_;refine pz 6 6 az ?_;refine dz az ?_
   clear az dW hHeld
   (try dsimp only)
   go_wp2
   (try simp only [Exit.inBlock,Exit.then])
   refine bodyPost_ret (iR rfl _ _ _ _ _ _ _ _ (0,0) (0,0) _ _ rfl hU.out iQ rfl fL.out rfl ij.out iQ rfl fL.out) rfl ?_;exact ⟨by rw [qd (S3 Hj.out (.inl (E0.out ▸ Kc2.out)))];rfl,HB.out⟩
end Go.Proofs.Ytkmimamminddiaa.PB
