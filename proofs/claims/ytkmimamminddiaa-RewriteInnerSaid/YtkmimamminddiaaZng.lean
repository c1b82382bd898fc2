/- Texts of this claim, merged: PBx29, PBx31, FU, FU2, FI, PBx41, FR, FB, RwPp, PBx40, FE, PBx33, PBx4, PBx21, FV, RwSg, RwIpOk, RwCgT, RwIn, RwCgI, RwCgU, RwMd, RwRHop, RwRch0, RwHp, RwInP, RwRin, RwRlk0. -/
import Derived.Test.YtkmimamminddiaaZnb
import Derived.Test.YtkmimamminddiaaZne
import Derived.Test.YtkmimamminddiaaZnf
import Derived.Test.YtkmimamminddiaaZnc
import Derived.Test.YtkmimamminddiaaZnd
import Derived.Deep.Cut
import Derived.Deep.CutRange
import Derived.Deep.CutBlock
import Derived.Deep.WholeRow
set_option maxHeartbeats 40000000
set_option maxRecDepth 100000
set_option linter.unusedVariables false
set_option linter.unusedSimpArgs false
namespace Go.Proofs.Ytkmimamminddiaa.PB
open Go.RowKit Go.Proofs.ah.bT Go.Proofs.ah.cY Go.Proofs.ah.iw
attribute [local go_sem] dI dJ eI eJ cO cP dK dL
def jY.f (k:Nat) (a0:Int) (a1:Int) (ew:Int) (ez:Int) (ee:Int) (gS:List Int):Option (Bool):=if ee=0 then (some true) else ((cl.f ew ez ee gS).bind fun EA=>(if EA.2=0 then ((eC.f k a0 a1 17 (EA.1.length:Int)).bind fun P4=>((bW.f k P4 EA.1).bind fun P5=>((bE.f k P5).bind fun Uy=>(some (Uy==65535))))) else (some false)))
theorem jY.calls (k:Nat) (a0:Int) (a1:Int) (ew:Int) (ez:Int) (ee:Int) (kU:Option Addr) (kV:Nat) (gS:List Int) (r:Bool) (w:World) (xg:Kd.C (Kd.int .u8) w kU gS.length gS) (xh:gS.length<=kV) (h:jY.f k a0 a1 ew ez ee gS=some r):
  Calls Try.prog 40 #[.int .u32 a0,.int .u32 a1,.agg #[.int .u16 ew,.int .u16 ez,.int .u16 ee,.slice kU gS.length kV]] w fun e w'=>e= .returned (.bool r) /\ Below w.heap.size w w':=by
 have zO:=Try.underlying83;have xj:=aa.mk xg;have xk:=aa.mk xh;clear xg xh;have HB:=gI w;have H:(if ee=0 then (some true) else ((cl.f ew ez ee gS).bind fun EA=>(if EA.2=0 then ((eC.f k a0 a1 17 (EA.1.length:Int)).bind fun P4=>((bW.f k P4 EA.1).bind fun P5=>((bE.f k P5).bind fun Uy=>(some (Uy==65535))))) else (some false))))=some r:=h;clear h
 by_cases c4:ee=0
 ·rw [aq c4] at H
  have mw:(ee==0)=true:=fF c4;have yh:(ee !=0)=false:=kL c4;clear c4;obtain rfl:=cN H
  go_enter Try.func40,Try.ntmps40
  go_wp2_with (first|((with_reducible refine aA (N:=5) rfl ?_);(try (refine eP (by rfl) ?_;dsimp only));refine aC ?hg (N:=5) ?hd (cs:= #[.int .u16 ew,.int .u16 ez,.int .u16 ee,.slice kU gS.length kV]) (t:=83) ?hr ?_;(case hd=>rfl);(case hg=>rfl);(case hr=>first|(go_simp;done)|(go_simp;rfl));intro pE hg w5 bJ hb;have aH:=aa.mk (au (bz HB) hb);have aK:=aa.mk (bJ);have bt:=aa.mk ((by rw [hg];exact (af (bz HB)):w.heap.size<=pE));have cC:=aa.mk ((by rw [hg];exact (af (bz HB)):w.heap.size<=pE));clear HB;have HB:=aH;have jT:=aK;have ZR:=bt;have ZS:=cC;clear aH aK bt cC;clear hb bJ hg;have Gv:w5.cell? ⟨pE,0,none⟩=some (.int .u16 ew):=cz jT.out 0 rfl;have Gw:w5.cell? ⟨pE,1,none⟩=some (.int .u16 ez):=cz jT.out 1 rfl;have Gx:w5.cell? ⟨pE,2,none⟩=some (.int .u16 ee):=cz jT.out 2 rfl;have Gy:w5.cell? ⟨pE,3,none⟩=some (.slice kU gS.length kV):=cz jT.out 3 rfl;have Gz:=ae jT.out 0;have GA:=ae jT.out 1;have GD:=ae jT.out 2;have GF:=ae jT.out 3))
  go_ret
  exact ⟨by first|rfl|(simp [aj,ak]<;>rfl)|(simp [*,aj,ak]<;>rfl),bz HB⟩
 rw [av c4] at H
 have mw:(ee==0)=false:=fq c4;have yh:(ee !=0)=true:=lf c4;replace H:=dc H;obtain ⟨⟨Xw,MD⟩,BB,H⟩:=H
 (try dsimp -simprocs only at H)
 have A7:=aa.mk BB;clear BB
 by_cases c8:MD=0
 ·rw [aq c8] at H
  have nU:(MD==0)=true:=fF c8;have Dl:(MD !=0)=false:=kL c8;clear c8;replace H:=dc H;obtain ⟨P4,Yc,H⟩:=H
  (try dsimp -simprocs only at H)
  have A9:=aa.mk Yc;clear Yc;replace H:=dc H;obtain ⟨P5,zU,H⟩:=H
  (try dsimp -simprocs only at H)
  have Lz:=aa.mk zU;clear zU;replace H:=dc H;obtain ⟨Uy,Je,H⟩:=H
  (try dsimp -simprocs only at H)
  have A11:=aa.mk Je;clear Je;obtain rfl:=cN H
  go_enter Try.func40,Try.ntmps40
  go_wp2_with (first|((with_reducible refine aA (N:=5) rfl ?_);(try (refine eP (by rfl) ?_;dsimp only));refine aC ?hg (N:=5) ?hd (cs:= #[.int .u16 ew,.int .u16 ez,.int .u16 ee,.slice kU gS.length kV]) (t:=83) ?hr ?_;(case hd=>rfl);(case hg=>rfl);(case hr=>first|(go_simp;done)|(go_simp;rfl));intro pE hg nP bJ hb;have aH:=aa.mk (au (bz HB) hb);have aK:=aa.mk (bJ);have bt:=aa.mk ((by rw [hg];exact (af (bz HB)):w.heap.size<=pE));have cC:=aa.mk ((by rw [hg];exact (af (bz HB)):w.heap.size<=pE));clear HB;have HB:=aH;have jT:=aK;have ZR:=bt;have ZS:=cC;clear aH aK bt cC;clear hb bJ hg;have GG:nP.cell? ⟨pE,0,none⟩=some (.int .u16 ew):=cz jT.out 0 rfl;have GH:nP.cell? ⟨pE,1,none⟩=some (.int .u16 ez):=cz jT.out 1 rfl;have GI:nP.cell? ⟨pE,2,none⟩=some (.int .u16 ee):=cz jT.out 2 rfl;have GJ:nP.cell? ⟨pE,3,none⟩=some (.slice kU gS.length kV):=cz jT.out 3 rfl;have GK:=ae jT.out 0;have GL:=ae jT.out 1;have GM:=ae jT.out 2;have GQ:=ae jT.out 3)|((with_reducible refine az (f:=48) rfl ?_);refine gL 14 Try.func48 #[.agg #[.int .u16 ew,.int .u16 ez,.int .u16 ee,.slice kU gS.length kV]] ?_;(with_reducible refine (cl.calls ew ez ee _ _ gS Xw MD _ ?aE ?aG A7.out).mono ?_);(case aE=>exact Kd.aW xj.out (bz HB));(case aG=>exact xk.out);rintro e qY ⟨AqE,rfl,gC,hb⟩;refine ⟨_,rfl, ?_⟩;have aH:=aa.mk (Kd.bP gC (af (bz HB)));have aK:=aa.mk (bq (kz jT) hb);have bt:=aa.mk (au (bz HB) hb);clear jT;clear HB;have EB:=aH;have jT:=aK;have HB:=bt;clear aH aK bt;(try clear hb);(try clear hb2);(try clear hk);(try clear hi);(try clear gC);obtain ⟨Ww,Wx,Wy⟩:=Kd.dn EB.out;subst Wy)|(go_at_call 82;(with_reducible refine (eC.calls k a0 a1 17 (Xw.length:Int) P4 _ A9.out).mono ?_);rintro e w' ⟨rfl,⟨nd,rfl⟩⟩)|(go_at_call 80;(with_reducible refine (bW.calls k P4 _ _ Xw P5 _ ?aE ?aG Lz.out).mono ?_);(case aE=>repeat (first|exact (Kd.ay EB.out).2.2|(with_reducible refine Kd.fH ?_ _)|(with_reducible refine Kd.fz ?_ _)|(with_reducible refine Kd.gQ ?_)));(case aG=>exact (Kd.ay EB.out).2.1);rintro e qJ ⟨rfl,hb⟩;have aH:=aa.mk (Kd.fX (Kd.rz EB) hb);have aK:=aa.mk (bq (kz jT) hb);have bt:=aa.mk (au (bz HB) hb);clear EB;clear jT;clear HB;have EB:=aH;have jT:=aK;have HB:=bt;clear aH aK bt;(try clear hb);(try clear hb2);(try clear hk);(try clear hi))|(go_at_call 79;(with_reducible refine (bE.calls k P5 Uy _ A11.out).mono ?_);rintro e w' ⟨rfl,⟨nd,rfl⟩⟩))
  go_ret
  exact ⟨by first|rfl|(simp [aj,ak]<;>rfl)|(simp [*,aj,ak]<;>rfl),bz HB⟩
 rw [av c8] at H
 have nU:(MD==0)=false:=fq c8;have Dl:(MD !=0)=true:=lf c8;obtain rfl:=cN H
 go_enter Try.func40,Try.ntmps40
 go_wp2_with (first|((with_reducible refine aA (N:=5) rfl ?_);(try (refine eP (by rfl) ?_;dsimp only));refine aC ?hg (N:=5) ?hd (cs:= #[.int .u16 ew,.int .u16 ez,.int .u16 ee,.slice kU gS.length kV]) (t:=83) ?hr ?_;(case hd=>rfl);(case hg=>rfl);(case hr=>first|(go_simp;done)|(go_simp;rfl));intro pE hg Fa bJ hb;have aH:=aa.mk (au (bz HB) hb);have aK:=aa.mk (bJ);have bt:=aa.mk ((by rw [hg];exact (af (bz HB)):w.heap.size<=pE));have cC:=aa.mk ((by rw [hg];exact (af (bz HB)):w.heap.size<=pE));clear HB;have HB:=aH;have jT:=aK;have ZR:=bt;have ZS:=cC;clear aH aK bt cC;clear hb bJ hg;have NM:Fa.cell? ⟨pE,0,none⟩=some (.int .u16 ew):=cz jT.out 0 rfl;have NN:Fa.cell? ⟨pE,1,none⟩=some (.int .u16 ez):=cz jT.out 1 rfl;have NP:Fa.cell? ⟨pE,2,none⟩=some (.int .u16 ee):=cz jT.out 2 rfl;have NQ:Fa.cell? ⟨pE,3,none⟩=some (.slice kU gS.length kV):=cz jT.out 3 rfl;have NR:=ae jT.out 0;have NS:=ae jT.out 1;have NT:=ae jT.out 2;have NU:=ae jT.out 3)|((with_reducible refine az (f:=48) rfl ?_);refine gL 14 Try.func48 #[.agg #[.int .u16 ew,.int .u16 ez,.int .u16 ee,.slice kU gS.length kV]] ?_;(with_reducible refine (cl.calls ew ez ee _ _ gS Xw MD _ ?aE ?aG A7.out).mono ?_);(case aE=>exact Kd.aW xj.out (bz HB));(case aG=>exact xk.out);rintro e w19 ⟨AqE,rfl,gC,hb⟩;refine ⟨_,rfl, ?_⟩;have aH:=aa.mk (Kd.bP gC (af (bz HB)));have aK:=aa.mk (bq (kz jT) hb);have bt:=aa.mk (au (bz HB) hb);clear jT;clear HB;have EB:=aH;have jT:=aK;have HB:=bt;clear aH aK bt;(try clear hb);(try clear hb2);(try clear hk);(try clear hi);(try clear gC)))
 go_ret
 exact ⟨by first|rfl|(simp [aj,ak]<;>rfl)|(simp [*,aj,ak]<;>rfl),bz HB⟩
attribute [local go_sem] dI dJ eI eJ cO cP dK dL
def nZ.f (l0:List Int):Option (Int×Int×Int×List Int×Int):=if (l0.length:Int)<8 then (some (0,0,0,([]:List Int),20)) else ((aT.f l0 4).bind fun vW=>(if (wrap64 (vW))<8 then (some (0,0,0,([]:List Int),21)) else (if (l0.length:Int)<(wrap64 (vW)) then (some (0,0,0,([]:List Int),20)) else ((aT.f l0 0).bind fun Fk=>((aT.f l0 2).bind fun Ih=>((aT.f l0 6).bind fun KH=>((eA.f l0 8 (wrap64 (vW))).bind fun ME=>(some (Fk,Ih,KH,ME,0)))))))))
theorem nZ.calls (A0:Option Addr) (c0:Nat) (l0:List Int) (r1:Int) (r2:Int) (r3:Int) (r4:List Int) (r5:Int) (w:World) (hr0:Kd.C (Kd.int .u8) w A0 l0.length l0) (hc0:l0.length<=c0) (h:nZ.f l0=some (r1,r2,r3,r4,r5)):
  Calls Try.prog 39 #[.slice A0 l0.length c0] w fun e w'=>∃ v3_:Value,e= .returned (.tuple #[.agg #[.int .u16 r1,.int .u16 r2,.int .u16 r3,v3_],.int .i64 r5]) /\ Kd.R (Kd.int .u8) 5 w' w.heap.size (fun _=>True) v3_ r4 /\ Below w.heap.size w w':=by
 have zO:=Try.underlying83;have gj:=aa.mk hr0;have jx:=aa.mk hc0;clear hr0 hc0;have HB:=gI w;have H:(if (l0.length:Int)<8 then (some (0,0,0,([]:List Int),20)) else ((aT.f l0 4).bind fun vW=>(if (wrap64 (vW))<8 then (some (0,0,0,([]:List Int),21)) else (if (l0.length:Int)<(wrap64 (vW)) then (some (0,0,0,([]:List Int),20)) else ((aT.f l0 0).bind fun Fk=>((aT.f l0 2).bind fun Ih=>((aT.f l0 6).bind fun KH=>((eA.f l0 8 (wrap64 (vW))).bind fun ME=>(some (Fk,Ih,KH,ME,0))))))))))=some (r1,r2,r3,r4,r5):=h;clear h
 by_cases c2:(l0.length:Int)<8
 ·rw [aq c2] at H
  have j4:decide ((l0.length:Int)<8)=true:=bN c2;have mq:decide (l0.length<8)=true:=bN (by omega);clear c2;simp only [Option.some.injEq,Prod.mk.injEq] at H
  obtain ⟨rfl,rfl,rfl,rfl,rfl⟩:=H
  go_enter Try.func39,Try.ntmps39
  go_wp2_with (first|((with_reducible refine aA (N:=2) rfl ?_);refine aC ?hg (N:=2) ?hd (cs:=oH) (t:=83) ?hr ?_;(case hd=>rfl);(case hg=>rfl);(case hr=>first|(go_simp;done)|(go_simp;rfl));intro iV hg w3 bJ hb;have aH:=aa.mk (au (bz HB) hb);have aK:=aa.mk (bJ);have bt:=aa.mk ((by rw [hg];exact (af (bz HB)):w.heap.size<=iV));have cC:=aa.mk ((by rw [hg];exact (af (bz HB)):w.heap.size<=iV));clear HB;have HB:=aH;have fV:=aK;have Uz:=bt;have UA:=cC;clear aH aK bt cC;clear hb bJ hg;have pK:w3.cell? ⟨iV,0,none⟩=some (.int .u16 0):=cz fV.out 0 rfl;have pL:w3.cell? ⟨iV,1,none⟩=some (.int .u16 0):=cz fV.out 1 rfl;have pM:w3.cell? ⟨iV,2,none⟩=some (.int .u16 0):=cz fV.out 2 rfl;have pN:w3.cell? ⟨iV,3,none⟩=some (.slice none 0 0):=cz fV.out 3 rfl;have pO:=ae fV.out 0;have pP:=ae fV.out 1;have pQ:=ae fV.out 2;have pR:=ae fV.out 3))
  refine bodyPost_ret (fG rfl _ _ iV 83 oH (0,0) _ rfl (by (repeat (first|with_reducible refine aQ ?_ _|with_reducible refine aJ ?_|with_reducible refine aM ?_ _|refine bK (cs:=oH) ?_ _ _ rfl));(with_reducible repeat (first|refine aQ ?_ _|refine aJ ?_|refine aM ?_ _));exact fV.out) Try.underlying83 rfl (by kernel_rfl)) rfl ?_;exact ⟨_,by first|rfl|(simp [aj,ak]<;>rfl)|(simp [*,aj,ak]<;>rfl),by first|exact Kd.bX _ _ _ _ _|exact Kd.jn _ _ _ _ _|exact Kd.jo _ _ _ _ _|exact Kd.jl _ _ _ _ _|exact Kd.jm _ _ _ _ _,bz HB⟩
 rw [av c2] at H
 have j4:decide ((l0.length:Int)<8)=false:=gN c2;have mq:decide (l0.length<8)=false:=gN (by omega);clear c2;replace H:=dc H;obtain ⟨vW,Dw,H⟩:=H
 (try dsimp -simprocs only at H)
 have A5:=aa.mk Dw;clear Dw
 by_cases c6:(wrap64 (vW))<8
 ·rw [aq c6] at H
  have um:decide ((wrap64 (vW))<8)=true:=bN c6;clear c6;simp only [Option.some.injEq,Prod.mk.injEq] at H
  obtain ⟨rfl,rfl,rfl,rfl,rfl⟩:=H
  go_enter Try.func39,Try.ntmps39
  go_wp2_with (first|((with_reducible refine aA (N:=2) rfl ?_);refine aC ?hg (N:=2) ?hd (cs:=oH) (t:=83) ?hr ?_;(case hd=>rfl);(case hg=>rfl);(case hr=>first|(go_simp;done)|(go_simp;rfl));intro iV hg w7 bJ hb;have aH:=aa.mk (au (bz HB) hb);have aK:=aa.mk (bJ);have bt:=aa.mk ((by rw [hg];exact (af (bz HB)):w.heap.size<=iV));have cC:=aa.mk ((by rw [hg];exact (af (bz HB)):w.heap.size<=iV));clear HB;have HB:=aH;have fV:=aK;have Uz:=bt;have UA:=cC;clear aH aK bt cC;clear hb bJ hg)|((with_reducible refine az (f:=64) rfl ?_);refine gL 10 Try.func64 #[.slice A0 l0.length c0,.int .i64 4] ?_;(with_reducible refine (aT.calls _ _ l0 4 vW _ ?aE ?aG A5.out).mono ?_);(case aE=>exact Kd.aW gj.out (bz HB));(case aG=>exact jx.out);rintro e w' ⟨rfl,⟨nd,rfl⟩⟩;refine ⟨_,rfl, ?_⟩;(try (rw [fu w7];generalize jK:World.drewN w7 _=w7;have aH:aa (w7.heap[iV]?=some (.cells oH 83 (0,0))):=⟨by rw [<- jK];exact (kz fV)⟩;have aK:aa (Below w.heap.size w w7):=⟨by rw [<- jK];exact bz HB⟩;clear fV HB jK;have fV:=aH;have HB:=aK;clear aH aK));have LF:w7.cell? ⟨iV,0,none⟩=some (.int .u16 0):=cz fV.out 0 rfl;have LG:w7.cell? ⟨iV,1,none⟩=some (.int .u16 0):=cz fV.out 1 rfl;have LH:w7.cell? ⟨iV,2,none⟩=some (.int .u16 0):=cz fV.out 2 rfl;have LI:w7.cell? ⟨iV,3,none⟩=some (.slice none 0 0):=cz fV.out 3 rfl;have LJ:=ae fV.out 0;have LL:=ae fV.out 1;have LM:=ae fV.out 2;have LN:=ae fV.out 3))
  refine bodyPost_ret (fG rfl _ _ iV 83 oH (0,0) _ rfl (by (repeat (first|with_reducible refine aQ ?_ _|with_reducible refine aJ ?_|with_reducible refine aM ?_ _|refine bK (cs:=oH) ?_ _ _ rfl));(with_reducible repeat (first|refine aQ ?_ _|refine aJ ?_|refine aM ?_ _));exact fV.out) Try.underlying83 rfl (by kernel_rfl)) rfl ?_;exact ⟨_,by first|rfl|(simp [aj,ak]<;>rfl)|(simp [*,aj,ak]<;>rfl),by first|exact Kd.bX _ _ _ _ _|exact Kd.jn _ _ _ _ _|exact Kd.jo _ _ _ _ _|exact Kd.jl _ _ _ _ _|exact Kd.jm _ _ _ _ _,bz HB⟩
 rw [av c6] at H
 have um:decide ((wrap64 (vW))<8)=false:=gN c6;clear c6
 by_cases c9:(l0.length:Int)<(wrap64 (vW))
 ·rw [aq c9] at H
  have wW:decide ((l0.length:Int)<(wrap64 (vW)))=true:=bN c9;clear c9;simp only [Option.some.injEq,Prod.mk.injEq] at H
  obtain ⟨rfl,rfl,rfl,rfl,rfl⟩:=H
  go_enter Try.func39,Try.ntmps39
  go_wp2_with (first|((with_reducible refine aA (N:=2) rfl ?_);refine aC ?hg (N:=2) ?hd (cs:=oH) (t:=83) ?hr ?_;(case hd=>rfl);(case hg=>rfl);(case hr=>first|(go_simp;done)|(go_simp;rfl));intro iV hg ku bJ hb;have aH:=aa.mk (au (bz HB) hb);have aK:=aa.mk (bJ);have bt:=aa.mk ((by rw [hg];exact (af (bz HB)):w.heap.size<=iV));have cC:=aa.mk ((by rw [hg];exact (af (bz HB)):w.heap.size<=iV));clear HB;have HB:=aH;have fV:=aK;have Uz:=bt;have UA:=cC;clear aH aK bt cC;clear hb bJ hg)|((with_reducible refine az (f:=64) rfl ?_);refine gL 10 Try.func64 #[.slice A0 l0.length c0,.int .i64 4] ?_;(with_reducible refine (aT.calls _ _ l0 4 vW _ ?aE ?aG A5.out).mono ?_);(case aE=>exact Kd.aW gj.out (bz HB));(case aG=>exact jx.out);rintro e w' ⟨rfl,⟨nd,rfl⟩⟩;refine ⟨_,rfl, ?_⟩;(try (rw [fu ku];generalize jK:World.drewN ku _=ku;have aH:aa (ku.heap[iV]?=some (.cells oH 83 (0,0))):=⟨by rw [<- jK];exact (kz fV)⟩;have aK:aa (Below w.heap.size w ku):=⟨by rw [<- jK];exact bz HB⟩;clear fV HB jK;have fV:=aH;have HB:=aK;clear aH aK));have xT:ku.cell? ⟨iV,0,none⟩=some (.int .u16 0):=cz fV.out 0 rfl;have xU:ku.cell? ⟨iV,1,none⟩=some (.int .u16 0):=cz fV.out 1 rfl;have xV:ku.cell? ⟨iV,2,none⟩=some (.int .u16 0):=cz fV.out 2 rfl;have xW:ku.cell? ⟨iV,3,none⟩=some (.slice none 0 0):=cz fV.out 3 rfl;have xX:=ae fV.out 0;have xY:=ae fV.out 1;have xZ:=ae fV.out 2;have yc:=ae fV.out 3))
  refine bodyPost_ret (fG rfl _ _ iV 83 oH (0,0) _ rfl (by (repeat (first|with_reducible refine aQ ?_ _|with_reducible refine aJ ?_|with_reducible refine aM ?_ _|refine bK (cs:=oH) ?_ _ _ rfl));(with_reducible repeat (first|refine aQ ?_ _|refine aJ ?_|refine aM ?_ _));exact fV.out) Try.underlying83 rfl (by kernel_rfl)) rfl ?_;exact ⟨_,by first|rfl|(simp [aj,ak]<;>rfl)|(simp [*,aj,ak]<;>rfl),by first|exact Kd.bX _ _ _ _ _|exact Kd.jn _ _ _ _ _|exact Kd.jo _ _ _ _ _|exact Kd.jl _ _ _ _ _|exact Kd.jm _ _ _ _ _,bz HB⟩
 rw [av c9] at H
 have wW:decide ((l0.length:Int)<(wrap64 (vW)))=false:=gN c9;clear c9;replace H:=dc H;obtain ⟨Fk,zT,H⟩:=H
 (try dsimp -simprocs only at H)
 have VL:=aa.mk zT;clear zT;replace H:=dc H;obtain ⟨Ih,Ds,H⟩:=H
 (try dsimp -simprocs only at H)
 have Qp:=aa.mk Ds;clear Ds;replace H:=dc H;obtain ⟨KH,Dm,H⟩:=H
 (try dsimp -simprocs only at H)
 have A14:=aa.mk Dm;clear Dm;replace H:=dc H;obtain ⟨ME,Eb,H⟩:=H
 (try dsimp -simprocs only at H)
 have A15:=aa.mk Eb;clear Eb;simp only [Option.some.injEq,Prod.mk.injEq] at H
 obtain ⟨rfl,rfl,rfl,rfl,rfl⟩:=H
 go_enter Try.func39,Try.ntmps39
 go_wp2_with (first|((with_reducible refine aA (N:=2) rfl ?_);refine aC ?hg (N:=2) ?hd (cs:=oH) (t:=83) ?hr ?_;(case hd=>rfl);(case hg=>rfl);(case hr=>first|(go_simp;done)|(go_simp;rfl));intro iV hg qJ bJ hb;have aH:=aa.mk (au (bz HB) hb);have aK:=aa.mk (bJ);have bt:=aa.mk ((by rw [hg];exact (af (bz HB)):w.heap.size<=iV));have cC:=aa.mk ((by rw [hg];exact (af (bz HB)):w.heap.size<=iV));clear HB;have HB:=aH;have fV:=aK;have Uz:=bt;have UA:=cC;clear aH aK bt cC;clear hb bJ hg)|((with_reducible refine az (f:=64) rfl ?_);refine gL 10 Try.func64 #[.slice A0 l0.length c0,.int .i64 4] ?_;(with_reducible refine (aT.calls _ _ l0 4 vW _ ?aE ?aG A5.out).mono ?_);(case aE=>exact Kd.aW gj.out (bz HB));(case aG=>exact jx.out);rintro e w' ⟨rfl,⟨nd,rfl⟩⟩;refine ⟨_,rfl, ?_⟩;(try (rw [fu qJ];generalize jK:World.drewN qJ _=qJ;have aH:aa (qJ.heap[iV]?=some (.cells oH 83 (0,0))):=⟨by rw [<- jK];exact (kz fV)⟩;have aK:aa (Below w.heap.size w qJ):=⟨by rw [<- jK];exact bz HB⟩;clear fV HB jK;have fV:=aH;have HB:=aK;clear aH aK)))|((with_reducible refine az (f:=64) rfl ?_);refine gL 21 Try.func64 #[.slice A0 l0.length c0,.int .i64 0] ?_;(with_reducible refine (aT.calls _ _ l0 0 Fk _ ?aE ?aG VL.out).mono ?_);(case aE=>exact Kd.aW gj.out (bz HB));(case aG=>exact jx.out);rintro e w' ⟨rfl,⟨nd,rfl⟩⟩;refine ⟨_,rfl, ?_⟩;(try (rw [fu qJ];generalize jK:World.drewN qJ _=qJ;have aH:aa (qJ.heap[iV]?=some (.cells oH 83 (0,0))):=⟨by rw [<- jK];exact (kz fV)⟩;have aK:aa (Below w.heap.size w qJ):=⟨by rw [<- jK];exact bz HB⟩;clear fV HB jK;have fV:=aH;have HB:=aK;clear aH aK)))|((with_reducible refine az (f:=64) rfl ?_);refine gL 23 Try.func64 #[.slice A0 l0.length c0,.int .i64 2] ?_;(with_reducible refine (aT.calls _ _ l0 2 Ih _ ?aE ?aG Qp.out).mono ?_);(case aE=>exact Kd.aW gj.out (bz HB));(case aG=>exact jx.out);rintro e w' ⟨rfl,⟨nd,rfl⟩⟩;refine ⟨_,rfl, ?_⟩;(try (rw [fu qJ];generalize jK:World.drewN qJ _=qJ;have aH:aa (qJ.heap[iV]?=some (.cells oH 83 (0,0))):=⟨by rw [<- jK];exact (kz fV)⟩;have aK:aa (Below w.heap.size w qJ):=⟨by rw [<- jK];exact bz HB⟩;clear fV HB jK;have fV:=aH;have HB:=aK;clear aH aK)))|((with_reducible refine az (f:=64) rfl ?_);refine gL 25 Try.func64 #[.slice A0 l0.length c0,.int .i64 6] ?_;(with_reducible refine (aT.calls _ _ l0 6 KH _ ?aE ?aG A14.out).mono ?_);(case aE=>exact Kd.aW gj.out (bz HB));(case aG=>exact jx.out);rintro e w' ⟨rfl,⟨nd,rfl⟩⟩;refine ⟨_,rfl, ?_⟩;(try (rw [fu qJ];generalize jK:World.drewN qJ _=qJ;have aH:aa (qJ.heap[iV]?=some (.cells oH 83 (0,0))):=⟨by rw [<- jK];exact (kz fV)⟩;have aK:aa (Below w.heap.size w qJ):=⟨by rw [<- jK];exact bz HB⟩;clear fV HB jK;have fV:=aH;have HB:=aK;clear aH aK)))|((with_reducible refine az (f:=65) rfl ?_);refine gL 28 Try.func65 #[.slice A0 l0.length c0,.int .i64 8,.int .i64 (wrap64 (vW))] ?_;(with_reducible refine (eA.calls _ _ l0 8 (wrap64 (vW)) ME _ ?aE ?aG A15.out).mono ?_);(case aE=>exact Kd.aW gj.out (bz HB));(case aG=>exact jx.out);rintro e Fa ⟨AxY,rfl,gC,hb⟩;refine ⟨_,rfl, ?_⟩;have aH:=aa.mk (Kd.bP gC (af (bz HB)));have aK:=aa.mk (bq (kz fV) hb);have bt:=aa.mk (au (bz HB) hb);clear fV;clear HB;have ZT:=aH;have fV:=aK;have HB:=bt;clear aH aK bt;(try clear hb);(try clear hb2);(try clear hk);(try clear hi);(try clear gC);obtain ⟨WA,WB,AcW⟩:=Kd.dn ZT.out;subst AcW;have Amn:Fa.cell? ⟨iV,0,none⟩=some (.int .u16 0):=cz fV.out 0 rfl;have Amo:Fa.cell? ⟨iV,1,none⟩=some (.int .u16 0):=cz fV.out 1 rfl;have Amp:Fa.cell? ⟨iV,2,none⟩=some (.int .u16 0):=cz fV.out 2 rfl;have Amq:Fa.cell? ⟨iV,3,none⟩=some (.slice none 0 0):=cz fV.out 3 rfl;have Amr:=ae fV.out 0;have Ams:=ae fV.out 1;have Amt:=ae fV.out 2;have Amu:=ae fV.out 3))
 refine bodyPost_ret (fG rfl _ _ iV 83 #[.int .u16 Fk,.int .u16 Ih,.int .u16 KH,.slice WA ME.length WB] (0,0) _ rfl (by (with_reducible repeat (first|refine aQ ?_ _|refine aJ ?_|refine aM ?_ _));refine bK (cs:= #[.int .u16 Fk,.int .u16 Ih,.int .u16 KH,.slice none 0 0]) ?_ 3 _ rfl;(with_reducible repeat (first|refine aQ ?_ _|refine aJ ?_|refine aM ?_ _));refine bK (cs:= #[.int .u16 Fk,.int .u16 Ih,.int .u16 0,.slice none 0 0]) ?_ 2 _ rfl;(with_reducible repeat (first|refine aQ ?_ _|refine aJ ?_|refine aM ?_ _));refine bK (cs:= #[.int .u16 Fk,.int .u16 0,.int .u16 0,.slice none 0 0]) ?_ 1 _ rfl;(with_reducible repeat (first|refine aQ ?_ _|refine aJ ?_|refine aM ?_ _));refine bK (cs:=oH) ?_ 0 _ rfl;(with_reducible repeat (first|refine aQ ?_ _|refine aJ ?_|refine aM ?_ _));exact fV.out) Try.underlying83 rfl (by kernel_rfl)) rfl ?_
 exact ⟨_,by first|rfl|(simp [aj,ak]<;>rfl)|(simp [*,aj,ak]<;>rfl),by (with_reducible repeat (first|apply Kd.fg|apply Kd.eV|apply Kd.fj));exact Kd.dA (Kd.eH (p:=⟨iV,3,none⟩) (Kd.eH (p:=⟨iV,2,none⟩) (Kd.eH (p:=⟨iV,1,none⟩) (Kd.eH (p:=⟨iV,0,none⟩) (Kd.mE ZT.out fV.out (by decide)) (fun _ hk=>hk.2) (.int .u16 Fk)) (fun _ hk=>hk.2) (.int .u16 Ih)) (fun _ hk=>hk.2) (.int .u16 KH)) (fun _ hk=>hk.2) (.slice WA ME.length WB)) (fun _ hk=>trivial),bz HB⟩
end Go.Proofs.Ytkmimamminddiaa.PB
namespace Go.Proofs.Ytkmimamminddiaa.Pure
open Go.RowKit Go.Proofs.Ytkmimamminddiaa.PB Go.Proofs.ah.bT Go.Proofs.ah.cY
open Go.Proofs.Ytkmimamminddiaa.Spec Go.Proofs.Ytkmimamminddiaa.jJ
theorem CY {l:List Int} (h:gJ l) (a b:Nat) (hab:b=a+2) (hb:b<=l.length):kH.f ((l.take b).drop a)=some (iX l a):=by
 subst hab;unfold kH.f;have hlen:((l.take (a+2)).drop a).length=2:=by rw [List.length_drop,List.length_take];omega
 rw [hlen,aq (by omega),aq (by omega),Ie l a (a+2) 0 0 rfl (by omega),Ie l a (a+2) 1 1 rfl (by omega),Et (h.getD (a+0)) (h.getD (a+1))]
 rfl
def udg (l:List Int):Int×Int×Int×List Int×Int:=
 if l.length<8 then (0,0,0,[],20) else if iX l 4<8 then (0,0,0,[],21) else if (l.length:Int)<iX l 4 then (0,0,0,[],20) else (iX l 0,iX l 2,iX l 6,(l.take (iX l 4).toNat).drop 8,0)
theorem F3 {l:List Int} (h:gJ l) (hl:l.length<=1000000000):jd.f l=some (udg l):=by
 unfold jd.f udg
 by_cases h8:l.length<8
 ·rw [aq (by omega),aq h8]
 have hg:=eU h 4
 rw [av (by omega),av h8,aq (by omega),CY h 4 6 rfl (by omega)];simp only [bD];rw [bZ (n:=iX l 4) (by omega) (by omega)]
 by_cases c1:iX l 4<8
 ·rw [aq c1,aq c1]
 rw [av c1,av c1]
 by_cases c2:(l.length:Int)<iX l 4
 ·rw [aq c2,aq c2]
 rw [av c2,av c2,aq (by omega),CY h 0 2 rfl (by omega)]
 simp only [bD];rw [aq (by omega),CY h 2 4 rfl (by omega)];simp only [bD];rw [aq (by omega),CY h 6 8 rfl (by omega)];simp only [bD];rw [aq (by omega),aq (by omega),xH _ (by rw [List.length_drop,List.length_take];omega)];simp only [bD]
theorem MF {l:List Int} (h:gJ l) (hl:l.length<=1000000000):nZ.f l=some (udg l):=by
 unfold nZ.f udg
 by_cases h8:l.length<8
 ·rw [aq (by omega),aq h8]
 have hg:=eU h 4
 have e0:=iP h 0 (by omega) hl;have e2:=iP h 2 (by omega) hl;have e4:=iP h 4 (by omega) hl;have e6:=iP h 6 (by omega) hl;rw [show ((0:Nat):Int)=0 from rfl] at e0
 rw [show ((2:Nat):Int)=2 from rfl] at e2
 rw [show ((4:Nat):Int)=4 from rfl] at e4
 rw [show ((6:Nat):Int)=6 from rfl] at e6
 rw [av (by omega),av h8,e4];simp only [bD];rw [bZ (n:=iX l 4) (by omega) (by omega)]
 by_cases c1:iX l 4<8
 ·rw [aq c1,aq c1]
 rw [av c1,av c1]
 by_cases c2:(l.length:Int)<iX l 4
 ·rw [aq c2,aq c2]
 have e8:=Bn l 8 (iX l 4).toNat (by omega) (by omega) hl
 rw [show ((8:Nat):Int)=8 from rfl,Int.toNat_of_nonneg hg.1] at e8
 rw [av c2,av c2,e0,e2,e6,e8];simp only [bD]
def mP (s d c:Int) (l:List Int):List Int:=[s / 256 % 256,s % 256,d / 256 % 256,d % 256,(8+(l.length:Int)) / 256 % 256,(8+(l.length:Int)) % 256,c / 256 % 256,c % 256]++l
theorem P6 (s d c:Int) {l:List Int} (hl:l.length<=1000000000):nV.f s d c l=if (l.length:Int)>65527 then some ([],23) else some (mP s d c l,0):=by
 unfold nV.f mP;rw [bZ (by omega) (by omega)]
 by_cases h:(l.length:Int)>65527
 ·rw [aq (by omega),aq h]
 rw [av (by omega),av h]
 simp only [bD,List.length_cons,List.length_nil];rw [aq (by omega)]
theorem vX (s d c:Int) {l:List Int} (hl:l.length<=1000000000):cl.f s d c l=if (l.length:Int)>65527 then some ([],23) else some (mP s d c l,0):=by
 unfold cl.f bp.f mP
 by_cases h:(l.length:Int)>65527
 ·rw [aq h,aq h]
 rw [av h,av h,bZ (n:=8+(l.length:Int)) (by omega) (by omega),zl (n:=8+(l.length:Int)) (by omega) (by omega)]
 simp only [bD,List.length_cons,List.length_nil,List.cons_append,List.nil_append];rw [aq (by omega)];simp only [bD,List.length_cons,List.length_nil,List.cons_append,List.nil_append];rw [aq (by omega)];simp only [bD,List.length_cons,List.length_nil,List.cons_append,List.nil_append];rw [aq (by omega)];simp only [bD,List.length_cons,List.length_nil,List.cons_append,List.nil_append];rw [aq (by omega)];simp only [bD,List.length_cons,List.length_nil,List.cons_append,List.nil_append];rw [aq (by omega)]
theorem vY {s d c:Int} {l:List Int} (h:gJ l):gJ (mP s d c l):=
 gJ.append (.cons (by omega) (.cons (by omega) (.cons (by omega) (.cons (by omega) (.cons (by omega) (.cons (by omega) (.cons (by omega) (.cons (by omega) .nil)))))))) h
theorem qG (s d c:Int) (l:List Int):(mP s d c l).length=8+l.length:=by simp [mP];omega
theorem vZ {s d c:Int} {l:List Int} (hs:0<=s /\ s<=65535) (hd:0<=d /\ d<=65535) (hc:0<=c /\ c<=65535) (hl:(l.length:Int)<=65527):kW (words (mP s d c l))=s+d+(8+(l.length:Int))+c+kW (words l):=by
 unfold mP;simp only [List.cons_append,List.nil_append,words,kW]
 omega
def sR (a b s d:Int) (l:List Int):Int:=norm (a / 65536+a % 65536+b / 65536+b % 65536+17+(8+(l.length:Int)) % 65536)+s+d+(8+(l.length:Int))+kW (words l)
theorem Bo {a b s d:Int} {l:List Int} (ha:0<=a) (hb:0<=b) (hs:0<=s) (hd:0<=d) (h:gJ l):0<sR a b s d l:=by
 have h1:=iG (a / 65536+a % 65536+b / 65536+b % 65536+17+(8+(l.length:Int)) % 65536) (by omega);have h2:=mD _ (fN l h);unfold sR;omega
theorem AdG {a b s d c:Int} {l:List Int} (ha:0<=a /\ a<=4294967295) (hb:0<=b /\ b<=4294967295) (hs:0<=s /\ s<=65535) (hd:0<=d /\ d<=65535) (hc:0<=c /\ c<=65535) (h:gJ l) (hl:(l.length:Int)<=3000) (K:Nat) (hK:4000<=K):
  nW.f K a b s d c l=some (norm (sR a b s d l+c),true):=by
 have hB:=vY (s:=s) (d:=d) (c:=c) h;have hL:=qG s d c l;have hp:=iG (a / 65536+a % 65536+b / 65536+b % 65536+17+(8+(l.length:Int)) % 65536) (by omega);unfold nW.f;rw [P6 _ _ _ (by omega),av (by omega)];simp only [bD];rw [show ((mP s d c l).length:Int)=8+(l.length:Int) from by omega,nh.F2 a b 17 _ ha hb (by omega) K (by omega)];simp only [bD];have hr:=lP (words (mP s d c l)) _ hp.1 (by omega) (fN _ hB);have hn:=nY (words (mP s d c l)) _ hp.1 (by omega) (fN _ hB);rw [nh.add_eq _ _ hB (by omega) hp.1 (by omega) K (by omega)];simp only [bD];rw [nh.fold_eq _ hr.1 hr.2 K (by omega),hn,vZ hs hd hc (by omega)];simp only [bD,beq_self_eq_true];unfold sR
 congr 3
 omega
def KI (S:Int):Int:=if norm S=65535 then 65535 else 65535 - norm S
theorem KJ {S o:Int} (h:0<S) (ho:1<=o /\ o<=65535):norm (S+o)=65535↔o=KI S:=by
 have e1:norm S=(S - 1) % 65535+1:=by unfold norm;rw [av (by omega)]
 have e2:norm (S+o)=(S+o - 1) % 65535+1:=by unfold norm;rw [av (by omega)]
 unfold KI;rw [e1,e2]
 split<;>omega
theorem UB {a b s d c:Int} {l:List Int} (ha:0<=a /\ a<=4294967295) (hb:0<=b /\ b<=4294967295) (hs:0<=s /\ s<=65535) (hd:0<=d /\ d<=65535) (h:gJ l) (hl:(l.length:Int)<=3000) (K:Nat) (hK:4000<=K):
  kZ.f K a b s d c l=some (KI (sR a b s d l)):=by
 have hS:=Bo (s:=s) (d:=d) ha.1 hb.1 hs.1 hd.1 h;have hnn:=iG (sR a b s d l) (by omega);have hB:=vY (s:=s) (d:=d) (c:=0) h;have hL:=qG s d 0 l;have hp:=iG (a / 65536+a % 65536+b / 65536+b % 65536+17+(8+(l.length:Int)) % 65536) (by omega);have hr:=lP (words (mP s d 0 l)) _ hp.1 (by omega) (fN _ hB);have hn:=nY (words (mP s d 0 l)) _ hp.1 (by omega) (fN _ hB);unfold kZ.f;rw [vX _ _ _ (by omega),av (by omega)];simp only [bD,if_true];rw [show ((mP s d 0 l).length:Int)=8+(l.length:Int) from by omega,nh.zu a b 17 _ ha hb (by omega) K (by omega)];simp only [bD];rw [nh.yf _ _ hB (by omega) hp.1 (by omega) K (by omega)];simp only [bD]
 have e:norm (a / 65536+a % 65536+b / 65536+b % 65536+17+(8+(l.length:Int)) % 65536)+(s+d+(8+(l.length:Int))+0+kW (words l))=sR a b s d l:=by unfold sR;omega
 rw [nh.qR _ hr.1 hr.2 K (by omega),hn,vZ hs hd (by omega) (by omega),e];simp only [bD];rw [show (IntKind.u16.max:Int)=65535 from rfl,qE hnn.1 hnn.2];unfold KI
 by_cases c1:norm (sR a b s d l)=65535
 ·rw [aq (by omega),aq c1]
 rw [av (by omega),av c1]
theorem P7 {a b s d c:Int} {l:List Int} (ha:0<=a /\ a<=4294967295) (hb:0<=b /\ b<=4294967295) (hs:0<=s /\ s<=65535) (hd:0<=d /\ d<=65535) (hc:0<=c /\ c<=65535) (h:gJ l) (hl:(l.length:Int)<=3000) (K:Nat) (hK:4000<=K):
  oZ.f K a b s d c l=some (decide (c=0 \/ c=KI (sR a b s d l))):=by
 have hS:=Bo (s:=s) (d:=d) ha.1 hb.1 hs.1 hd.1 h;unfold oZ.f
 by_cases c0:c=0
 ·rw [aq c0];simp [c0]
 rw [av c0,AdG ha hb hs hd hc h hl K hK]
 simp only [bD,if_true];have:=KJ hS (o:=c) (by omega)
 congr 1
 rw [Bool.eq_iff_iff,beq_iff_eq,decide_eq_true_eq,this];exact ⟨fun h=> .inr h,fun h=>h.resolve_left c0⟩
theorem MG {a b s d c:Int} {l:List Int} (ha:0<=a /\ a<=4294967295) (hb:0<=b /\ b<=4294967295) (hs:0<=s /\ s<=65535) (hd:0<=d /\ d<=65535) (hc:0<=c /\ c<=65535) (h:gJ l) (hl:(l.length:Int)<=3000) (K:Nat) (hK:4000<=K):
  jY.f K a b s d c l=some (decide (c=0 \/ c=KI (sR a b s d l))):=by
 have hS:=Bo (s:=s) (d:=d) ha.1 hb.1 hs.1 hd.1 h;unfold jY.f
 by_cases c0:c=0
 ·rw [aq c0];simp [c0]
 have hB:=vY (s:=s) (d:=d) (c:=c) h
 have hL:=qG s d c l;have hp:=iG (a / 65536+a % 65536+b / 65536+b % 65536+17+(8+(l.length:Int)) % 65536) (by omega);have hr:=lP (words (mP s d c l)) _ hp.1 (by omega) (fN _ hB);have hn:=nY (words (mP s d c l)) _ hp.1 (by omega) (fN _ hB);rw [av c0,vX _ _ _ (by omega),av (by omega)];simp only [bD,if_true];rw [show ((mP s d c l).length:Int)=8+(l.length:Int) from by omega,nh.zu a b 17 _ ha hb (by omega) K (by omega)];simp only [bD];rw [nh.yf _ _ hB (by omega) hp.1 (by omega) K (by omega)];simp only [bD];have e:norm (a / 65536+a % 65536+b / 65536+b % 65536+17+(8+(l.length:Int)) % 65536)+(s+d+(8+(l.length:Int))+c+kW (words l))=sR a b s d l+c:=by unfold sR;omega
 rw [nh.qR _ hr.1 hr.2 K (by omega),hn,vZ hs hd hc (by omega),e];simp only [bD];have:=KJ hS (o:=c) (by omega)
 congr 1
 rw [Bool.eq_iff_iff,beq_iff_eq,decide_eq_true_eq,this];exact ⟨fun h=> .inr h,fun h=>h.resolve_left c0⟩
end Go.Proofs.Ytkmimamminddiaa.Pure
namespace Go.Proofs.Ytkmimamminddiaa.fM
open Go.RowKit Go.Proofs.Ytkmimamminddiaa.PB Go.Proofs.ah.bT Go.Proofs.ah.cY
open Go.Proofs.Ytkmimamminddiaa.Spec Go.Proofs.Ytkmimamminddiaa.jJ
theorem Xx {a b c d:Int} (ha:0<=a /\ a<=255) (hb:0<=b /\ b<=255) (hc:0<=c /\ c<=255) (hd:0<=d /\ d<=255):
  Go.bits .or .u32 (Go.bits .or .u32 (Go.bits .or .u32 (((a % 4294967296)*16777216) % 4294967296) (((b % 4294967296)*65536) % 4294967296)) (((c % 4294967296)*256) % 4294967296)) (d % 4294967296)=a*16777216+b*65536+c*256+d:=by
 rw [show a % 4294967296=a from by omega,show a*16777216 % 4294967296=a*16777216 from by omega,show b % 4294967296=b from by omega,show b*65536 % 4294967296=b*65536 from by omega,show c % 4294967296=c from by omega,show c*256 % 4294967296=c*256 from by omega,show d % 4294967296=d from by omega];rw [Ic 24 (x:=a*16777216) (y:=b*65536) (by omega) (by omega) (by omega) (by omega) (by omega) (by omega)];rw [Ic 16 (x:=a*16777216+b*65536) (y:=c*256) (by omega) (by omega) (by omega) (by omega) (by omega) (by omega)];rw [Ic 8 (x:=a*16777216+b*65536+c*256) (y:=d) (by omega) (by omega) (by omega) (by omega) (by omega) (by omega)]
def Ii (l:List Int):Int×Int×Int×Int×List Int×Int:=if l.length<8 then (0,0,0,0,[],20) else (l.getD 0 0,l.getD 1 0,iX l 2,vU l 4,l.drop 8,0)
theorem rW {l:List Int} (h:gJ l) (hl:l.length<=1000000000):iD.f l=some (Ii l):=by
 unfold iD.f Ii
 by_cases h8:l.length<8
 ·rw [aq (by omega),aq h8]
 rw [av (by omega),av h8,aq (by omega),aq (by omega),aq (by omega),aq (by omega),aq (by omega),aq (by omega),aq (by omega),aq (by omega),aq (by omega),xH _ (by rw [List.length_drop];omega)]
 simp only [bD];rw [gU l 0 0 rfl,gU l 1 1 rfl,gU l 2 2 rfl,gU l 3 3 rfl,gU l 4 4 rfl,gU l 5 5 rfl,gU l 6 6 rfl,gU l 7 7 rfl,Et (h.getD 2) (h.getD 3),Xx (h.getD 4) (h.getD 5) (h.getD 6) (h.getD 7)];have e:vU l 4=(l.getD 4 0*256+l.getD 5 0)*65536+(l.getD 6 0*256+l.getD 7 0):=rfl;rw [e,show (l.getD 4 0*256+l.getD 5 0)*65536+(l.getD 6 0*256+l.getD 7 0)=l.getD 4 0*16777216+l.getD 5 0*65536+l.getD 6 0*256+l.getD 7 0 from by omega]
 rfl
theorem oP {l:List Int} (h:gJ l) (hl:l.length<=1000000000):ek.f l=some (Ii l):=by
 unfold ek.f Ii
 by_cases h8:l.length<8
 ·rw [aq (by omega),aq h8]
 have e2:=iP h 2 (by omega) hl
 have e4:=qQ h 4 (by omega) hl;have e8:=Bn l 8 l.length (by omega) (by omega) hl;rw [show ((2:Nat):Int)=2 from rfl] at e2
 rw [show ((4:Nat):Int)=4 from rfl] at e4
 rw [show ((8:Nat):Int)=8 from rfl] at e8
 rw [av (by omega),av h8,aq (by omega),aq (by omega),e2,e4,e8];simp only [bD,List.take_length];rw [gU l 0 0 rfl,gU l 1 1 rfl]
theorem Xy (a b c d c' d':Int) (l l':List Int):∃ x,kA.f a b c d l=some x /\ m9.f a b c' d' l'=some x:=by
 unfold kA.f kX.f m9.f
 by_cases h0:a=0
 ·subst h0;exact ⟨b==0,by simp,by simp⟩
 by_cases h8:a=8
 ·subst h8;exact ⟨b==0,by simp,by simp⟩
 refine ⟨false, ?_,by simp [h0,h8]⟩
 simp only [av h0,av h8]
 split<;>(try split)<;>(try split)<;>simp
theorem UC (a b c d b' c' d':Int) (l l':List Int):∃ x,qu.f a b c d l=some x /\ mm.f a b' c' d' l'=some x:=by
 unfold qu.f kX.f mm.f
 by_cases h3:a=3
 ·subst h3;exact ⟨true,by simp,by simp⟩
 by_cases Xz:a=11
 ·subst Xz;exact ⟨true,by simp,by simp⟩
 by_cases IW:a=12
 ·subst IW;exact ⟨true,by simp,by simp⟩
 refine ⟨false, ?_,by simp [h3,Xz,IW]⟩
 simp only [av h3,av Xz,av IW]
 split<;>(try split)<;>simp
def cQ (t c s r:Int) (l:List Int):List Int:=[t,c,s / 256 % 256,s % 256,r / 16777216 % 256,r / 65536 % 256,r / 256 % 256,r % 256]++l
theorem yg (t c s r:Int) {l:List Int} (hl:l.length<=1000000000):iE.f t c s r l=if (l.length:Int)>65507 then some ([],23) else some (cQ t c s r l,0):=by
 unfold iE.f cQ;rw [bZ (by omega) (by omega)]
 by_cases h:(l.length:Int)>65507
 ·rw [aq (by omega),aq h]
 rw [av (by omega),av h]
 simp only [bD,List.length_cons,List.length_nil];rw [aq (by omega)]
theorem lQ (t c s r:Int) {l:List Int} (hl:l.length<=1000000000):bG.f t c s r l=if (l.length:Int)>65507 then some ([],23) else some (cQ t c s r l,0):=by
 unfold bG.f bp.f dM.f cQ
 by_cases h:(l.length:Int)>65507
 ·rw [aq h,aq h]
 rw [av h,av h]
 simp only [bD,List.length_cons,List.length_nil,List.cons_append,List.nil_append];rw [aq (by omega)];simp only [bD,List.length_cons,List.length_nil,List.cons_append,List.nil_append];rw [aq (by omega)];simp only [bD,List.length_cons,List.length_nil,List.cons_append,List.nil_append];rw [aq (by omega)]
theorem lR {t c s r:Int} {l:List Int} (ht:0<=t /\ t<=255) (hc:0<=c /\ c<=255) (h:gJ l):gJ (cQ t c s r l):=
 gJ.append (.cons ht (.cons hc (.cons (by omega) (.cons (by omega) (.cons (by omega) (.cons (by omega) (.cons (by omega) (.cons (by omega) .nil)))))))) h
theorem gD (t c s r:Int) (l:List Int):(cQ t c s r l).length=8+l.length:=by simp [cQ];omega
theorem KK {l:List Int} (h:gJ l):(ck l==0)=(norm (kW (words l))==65535):=by
 have:=iG _ (mD _ (fN l h));unfold ck;rw [Bool.eq_iff_iff,beq_iff_eq,beq_iff_eq];omega
theorem P8 {t c s r:Int} {l:List Int} (ht:0<=t /\ t<=255) (hc:0<=c /\ c<=255) (h:gJ l) (hl:(l.length:Int)<=3000) (K:Nat) (hK:4000<=K):
  nF.f K t c s r l=some (norm (kW (words (cQ t c s r l)))==65535) /\ jB.f K t c s r l=some (norm (kW (words (cQ t c s r l)))==65535):=by
 have hB:=lR (s:=s) (r:=r) ht hc h;have hL:=gD t c s r l;have hr:=lP (words (cQ t c s r l)) 0 (by omega) (by omega) (fN _ hB);have hn:=nY (words (cQ t c s r l)) 0 (by omega) (by omega) (fN _ hB)
 constructor
 ·unfold nF.f
  rw [yg _ _ _ _ (by omega),av (by omega)];simp only [bD,if_true];rw [nh.of_eq _ hB (by omega) K (by omega) (by omega)];simp only [bD];rw [KK hB]
 ·unfold jB.f
  rw [lQ _ _ _ _ (by omega),av (by omega)];simp only [bD,if_true];rw [nh.yf 0 _ hB (by omega) (by omega) (by omega) K (by omega)];simp only [bD];rw [nh.qR _ hr.1 hr.2 K (by omega),hn,Int.zero_add];simp only [bD]
theorem Bp (t c s r:Int) (l:List Int) (K:Nat) (hK:4000<=K) (hl:(l.length:Int)<=3000) (hB:gJ (cQ t c 0 r l)):fE.f K t c s r l=some (ck (cQ t c 0 r l)):=by
 have hL:=gD t c 0 r l;unfold fE.f;rw [lQ _ _ _ _ (by omega),av (by omega)];simp only [bD,if_true];rw [nh.Us _ hB (by omega) _ (by omega) (by omega)];simp only [bD]
end Go.Proofs.Ytkmimamminddiaa.fM
namespace Go.Proofs.Ytkmimamminddiaa.PB
open Go.RowKit Go.Proofs.ah.bT Go.Proofs.ah.cY Go.Proofs.ah.iw
attribute [local go_sem] dI dJ eI eJ cO cP dK dL
mutual
def bC.j0:Nat ->List Int ->Int ->Int ->Bool ->Option (Int×Int×Int×Int×Int×Int×Int×Int×List Int×List Int×Int)
 |0,_,_,_,_=>none
 |k+1,x0,x4,x5,x33=>if x33=true then (some (0,0,0,0,0,0,0,0,([]:List Int),([]:List Int),21)) else (if (x0.length:Int)<x4 then (bC.j1 k x0 x4 x5 true) else (bC.j1 k x0 x4 x5 (decide ((x0.length:Int)<x5))))
def bC.j1:Nat ->List Int ->Int ->Int ->Bool ->Option (Int×Int×Int×Int×Int×Int×Int×Int×List Int×List Int×Int)
 |0,_,_,_,_=>none
 |k+1,x0,x4,x5,x44=>if x44=true then (some (0,0,0,0,0,0,0,0,([]:List Int),([]:List Int),20)) else (if 0<=x4 then (if x4<=(x0.length:Int) then ((bW.f k 0 (x0.take (x4:Int).toNat)).bind fun Co=>((bE.f k Co).bind fun Bq=>(if Bq=65535 then ((aT.f x0 6).bind fun rF=>(if 1<(x0.length:Int) then ((aT.f x0 4).bind fun yG=>(if 8<(x0.length:Int) then (if 9<(x0.length:Int) then ((dN.f x0 12).bind fun Br=>((dN.f x0 16).bind fun Cp=>((eA.f x0 20 x4).bind fun ED=>((eA.f x0 x4 x5).bind fun Fl=>(some (rd x0 1,rd x0 8,rd x0 9,yG,(rF / 8192) % 256,Go.bits .and .u16 rF 8191,Br,Cp,ED,Fl,0)))))) else (none)) else (none))) else (none))) else (some (0,0,0,0,0,0,0,0,([]:List Int),([]:List Int),22))))) else (none)) else (none))
end
def bC.f (k:Nat) (l0:List Int):Option (Int×Int×Int×Int×Int×Int×Int×Int×List Int×List Int×Int):=if (l0.length:Int)<20 then (some (0,0,0,0,0,0,0,0,([]:List Int),([]:List Int),20)) else (if 0<(l0.length:Int) then ((aT.f l0 2).bind fun sY=>(if ((rd l0 0) / 16)=4 then (if (wrap64 ((wrap64 (Go.bits .and .u8 (rd l0 0) 15))*4))<20 then (bC.j0 k l0 (wrap64 ((wrap64 (Go.bits .and .u8 (rd l0 0) 15))*4)) (wrap64 (sY)) true) else (bC.j0 k l0 (wrap64 ((wrap64 (Go.bits .and .u8 (rd l0 0) 15))*4)) (wrap64 (sY)) (decide ((wrap64 (sY))<(wrap64 ((wrap64 (Go.bits .and .u8 (rd l0 0) 15))*4)))))) else (bC.j0 k l0 (wrap64 ((wrap64 (Go.bits .and .u8 (rd l0 0) 15))*4)) (wrap64 (sY)) true))) else (none))
def bC.T3:Bool×List (List Nat×List Nat):=(true,[([],[]),([0],[0]),([1],[1]),([2],[2]),([3],[3]),([4],[4]),([],[]),([6],[6]),([7],[7]),([5,7,0,1,2,3,4,5],[5]),([8,9,0,1,2,3,4,5,6,7,8,9],[8])])
def bC.B3:List Nat:=[0,1,3,7,15,31,0,64,192,255,1023]
theorem bC.Lr:gB .any (opsOf Try.f38 3)=bC.T3:=by kernel_rfl
theorem bC.Dk:cS bC.T3.2 bC.B3=true:=by kernel_rfl
def bC.T11:Bool×List (List Nat×List Nat):=(true,[([],[]),([0],[0]),([1],[1]),([],[]),([3],[3]),([],[]),([5],[5]),([6],[6]),([],[]),([8],[8]),([],[]),([10],[10]),([11],[11]),([],[]),([13],[13]),([14],[14]),([],[]),([16,4],[16]),([],[]),([18,17],[18]),([],[]),([],[]),([20,21,19],[20,21]),([],[]),([],[]),([],[]),([23,24,25,22],[23,24,25]),([2,4,7,9,12,15,17,19,22,26],[2,4,7,9,12,15,17,19,22,26]),([27,26,0,1,2,3,4,5,6,7,8,9,10,11,12,13,14,15,16,17,18,19,20,21,22,23,24,25,26,27],[27]),([28,0,1,2,3,4,5,6,7,8,9,10,11,12,13,14,15,16,17,18,19,20,21,22,23,24,25,26,27,28],[])])
def bC.B11:List Nat:=[0,1,3,0,8,0,32,96,0,256,0,1024,3072,0,8192,24576,0,65560,0,458776,0,0,4128792,0,0,0,67043352,134217727,268435455,536870911]
theorem bC.Ajd:gB .any (opsOf Try.f38 11)=bC.T11:=by kernel_rfl
theorem bC.AdH:cS bC.T11.2 bC.B11=true:=by kernel_rfl
theorem bC.calls (k:Nat) (A0:Option Addr) (c0:Nat) (l0:List Int) (r1:Int) (r2:Int) (r3:Int) (r4:Int) (r5:Int) (r6:Int) (r7:Int) (r8:Int) (r9:List Int) (uL:List Int) (Ct:Int) (w:World) (hr0:Kd.C (Kd.int .u8) w A0 l0.length l0) (hc0:l0.length<=c0) (h:bC.f k l0=some (r1,r2,r3,r4,r5,r6,r7,r8,r9,uL,Ct)):
  Calls Try.prog 38 #[.slice A0 l0.length c0] w fun e w'=>∃ Cv Cw:Value,e= .returned (.tuple #[.agg #[.int .u8 r1,.int .u8 r2,.int .u8 r3,.int .u16 r4,.int .u8 r5,.int .u16 r6,.int .u32 r7,.int .u32 r8,Cv,Cw],.int .i64 Ct]) /\ Kd.R (Kd.int .u8) 5 w' w.heap.size (fun k_=>some k_≠(Cw:Value).ownBlock) Cv r9 /\ Kd.R (Kd.int .u8) 5 w' w.heap.size (fun k_=>some k_≠(Cv:Value).ownBlock) Cw uL /\ Below w.heap.size w w':=by
 have iW:=Try.underlying73;have gj:=aa.mk hr0;have jx:=aa.mk hc0;clear hr0 hc0;have HB:=gI w;have H:(if (l0.length:Int)<20 then (some (0,0,0,0,0,0,0,0,([]:List Int),([]:List Int),20)) else (if 0<(l0.length:Int) then ((aT.f l0 2).bind fun sY=>(if ((rd l0 0) / 16)=4 then (if (wrap64 ((wrap64 (Go.bits .and .u8 (rd l0 0) 15))*4))<20 then (bC.j0 k l0 (wrap64 ((wrap64 (Go.bits .and .u8 (rd l0 0) 15))*4)) (wrap64 (sY)) true) else (bC.j0 k l0 (wrap64 ((wrap64 (Go.bits .and .u8 (rd l0 0) 15))*4)) (wrap64 (sY)) (decide ((wrap64 (sY))<(wrap64 ((wrap64 (Go.bits .and .u8 (rd l0 0) 15))*4)))))) else (bC.j0 k l0 (wrap64 ((wrap64 (Go.bits .and .u8 (rd l0 0) 15))*4)) (wrap64 (sY)) true))) else (none)))=some (r1,r2,r3,r4,r5,r6,r7,r8,r9,uL,Ct):=h
 clear h
 by_cases c2:(l0.length:Int)<20
 ·rw [aq c2] at H
  have j4:decide ((l0.length:Int)<20)=true:=bN c2;have mq:decide (l0.length<20)=true:=bN (by omega);clear c2;simp only [Option.some.injEq,Prod.mk.injEq] at H
  obtain ⟨rfl,rfl,rfl,rfl,rfl,rfl,rfl,rfl,rfl,rfl,rfl⟩:=H
  go_enter Try.func38,Try.ntmps38
  go_wp2_with (first|((with_reducible refine aA (N:=2) rfl ?_);(try (refine eP (by rfl) ?_;dsimp only));refine aC ?hg (N:=2) ?hd (cs:=jL) (t:=73) ?hr ?_;(case hd=>rfl);(case hg=>rfl);(case hr=>first|(go_simp;done)|(go_simp;rfl));intro dZ hg w3 bJ hb;have aH:=aa.mk (au (bz HB) hb);have aK:=aa.mk (bJ);have bt:=aa.mk ((by rw [hg];exact (af (bz HB)):w.heap.size<=dZ));have cC:=aa.mk ((by rw [hg];exact (af (bz HB)):w.heap.size<=dZ));clear HB;have HB:=aH;have dO:=aK;have fW:=bt;have Aje:=cC;clear aH aK bt cC;clear hb bJ hg;have pK:w3.cell? ⟨dZ,0,none⟩=some (.int .u8 0):=cz dO.out 0 rfl;have pL:w3.cell? ⟨dZ,1,none⟩=some (.int .u8 0):=cz dO.out 1 rfl;have pM:w3.cell? ⟨dZ,2,none⟩=some (.int .u8 0):=cz dO.out 2 rfl;have pN:w3.cell? ⟨dZ,3,none⟩=some (.int .u16 0):=cz dO.out 3 rfl;have uj:w3.cell? ⟨dZ,4,none⟩=some (.int .u8 0):=cz dO.out 4 rfl;have G4:w3.cell? ⟨dZ,5,none⟩=some (.int .u16 0):=cz dO.out 5 rfl;have G5:w3.cell? ⟨dZ,6,none⟩=some (.int .u32 0):=cz dO.out 6 rfl;have G6:w3.cell? ⟨dZ,7,none⟩=some (.int .u32 0):=cz dO.out 7 rfl;have G7:w3.cell? ⟨dZ,8,none⟩=some (.slice none 0 0):=cz dO.out 8 rfl;have G8:w3.cell? ⟨dZ,9,none⟩=some (.slice none 0 0):=cz dO.out 9 rfl;have pO:=ae dO.out 0;have pP:=ae dO.out 1;have pQ:=ae dO.out 2;have pR:=ae dO.out 3;have uk:=ae dO.out 4;have G9:=ae dO.out 5;have He:=ae dO.out 6;have Hf:=ae dO.out 7;have Hg:=ae dO.out 8;have Hh:=ae dO.out 9))
  refine bodyPost_ret (fG rfl _ _ dZ 73 jL (0,0) _ rfl (by (repeat (first|with_reducible refine aQ ?_ _|with_reducible refine aJ ?_|with_reducible refine aM ?_ _|refine bK (cs:=jL) ?_ _ _ rfl));(with_reducible repeat (first|refine aQ ?_ _|refine aJ ?_|refine aM ?_ _));exact dO.out) Try.underlying73 rfl (by kernel_rfl)) rfl ?_
  exact ⟨_,_,by first|rfl|(simp [aj,ak]<;>rfl)|(simp [*,aj,ak]<;>rfl),by first|exact Kd.bX _ _ _ _ _|exact Kd.jn _ _ _ _ _|exact Kd.jo _ _ _ _ _|exact Kd.jl _ _ _ _ _|exact Kd.jm _ _ _ _ _,by first|exact Kd.bX _ _ _ _ _|exact Kd.jn _ _ _ _ _|exact Kd.jo _ _ _ _ _|exact Kd.jl _ _ _ _ _|exact Kd.jm _ _ _ _ _,bz HB⟩
 rw [av c2] at H
 have j4:decide ((l0.length:Int)<20)=false:=gN c2;have mq:decide (l0.length<20)=false:=gN (by omega);clear c2
 by_cases c5:0<(l0.length:Int)
 rotate_left
 ·rw [av c5] at H
  cases H
 rw [aq c5] at H
 have mJ:decide (0<(l0.length:Int))=true:=bN c5;have qn:decide (0<l0.length)=true:=bN (by omega);clear c5;replace H:=dc H;obtain ⟨sY,wD,H⟩:=H
 (try dsimp -simprocs only at H)
 have A6:=aa.mk wD;clear wD;have HC7:=aa.mk H;clear H
 go_enter Try.func38,Try.ntmps38
 try go_wp2_with (first|((with_reducible refine aA (N:=2) rfl ?_);(try (refine eP (by rfl) ?_;dsimp only));refine aC ?hg (N:=2) ?hd (cs:=jL) (t:=73) ?hr ?_;(case hd=>rfl);(case hg=>rfl);(case hr=>first|(go_simp;done)|(go_simp;rfl));intro dZ hg w8 bJ hb;have aH:=aa.mk (au (bz HB) hb);have aK:=aa.mk (bJ);have bt:=aa.mk ((by rw [hg];exact (af (bz HB)):w.heap.size<=dZ));have cC:=aa.mk ((by rw [hg];exact (af (bz HB)):w.heap.size<=dZ));clear HB;have HB:=aH;have dO:=aK;have fW:=bt;have Aje:=cC;clear aH aK bt cC;clear hb bJ hg))
 have aH:=aa.mk (aJ dO.out);have aK:=aa.mk (bf HB.out);clear dO;clear HB;have dO:=aH;have HB:=aK;clear aH aK;have UD:0<=(0:Int):=(by omega)
 have UE:0<(l0.length:Int):=gA;obtain ⟨nj,AqG,rU⟩:=Kd.dG gj.out 0 UD UE;have we:=rU
 (try rw [show ((0:Int)).toNat=0 from rfl] at we)
 (try rw [show 0*1=0 from rfl] at we)
 (try rw [Addr.add_zero'] at we)
 cases AqG
 have Auj:(0<l0.length)=True:=eq_true (by omega)
 (try rw [show ((0:Int)).toNat=0 from rfl] at rU)
 (try rw [Addr.add_zero'] at rU)
 replace rU:=(HB.out.cell (dF w _ rU)).trans rU;replace UD:=eq_true UD;replace UE:=eq_true UE;refine dB (n:=11) (S:=fun w'=>w'.cell? nj=some (.int .u8 (rd l0 0))) (ds:=[]) #[false,false,false,false,false,false,false,false,false,false,false] (by kernel_rfl) rfl rfl (((HB.out.cell (dF w _ we)).trans we)) (fun hHeld=> ?_);refine bF bC.Lr bC.Dk (fun ax eu=> ?_);generalize w8.drew=w9 at dO HB rU hHeld|-
 refine pz 0 11 ax ?_;refine pz 1 12 ax ?_;refine pz 6 17 ax ?_;refine tz 2 13 ax eu hHeld ?_;refine pz 3 14 ax ?_;refine pz 4 15 ax ?_;refine pz 5 16 ax ?_;refine oz 7 (some 18) ax (fun K hK=> ?_);refine gG Try.func64 #[.slice (some nj) l0.length c0,.int .i64 2] ?_
 with_reducible refine (aT.calls _ _ l0 2 sY _ ?aE ?aG A6.out).mono ?_
 (case aE=>exact Kd.aW gj.out (bz HB))
 (case aG=>exact jx.out)
 rintro e w' ⟨rfl,⟨nd,rfl⟩⟩;refine ⟨_,rfl, ?_⟩;refine hK.out _ _ (((HB.out.cell (dF w _ we)).trans we)) (fun hHeld=> ?_);clear hK K;refine nz 18 ?_;refine pz 8 19 ax ?_;refine pz 9 4 ax ?_;refine pz 10 5 ax ?_;refine dz ax ?_
 go_upto_region 4 with (fail)
 go_cut [33] (fun v33 wc=>∃ (kq:Nat) (Ol:Bool),v33= .bool Ol /\ aa (bC.j0 kq l0 (wrap64 ((wrap64 (Go.bits .and .u8 (rd l0 0) 15))*4)) (wrap64 (sY)) Ol=some (r1,r2,r3,r4,r5,r6,r7,r8,r9,uL,Ct)) /\ aa (kq<=k) /\ aa (wc.heap[dZ]?=some (.cells #[.int .u8 0,.int .u8 0,.int .u8 0,.int .u16 0,.int .u8 0,.int .u16 0,.int .u32 0,.int .u32 0,(.slice none 0 0),(.slice none 0 0)] 73 (0,0))) /\ aa (Below w.heap.size w wc))
 case first=>
  have H:=HC7.out;clear HC7
  by_cases zB:((rd l0 0) / 16)=4
  ·rw [aq zB] at H
   have uy:(((rd l0 0) / 16)==4)=true:=fF zB;have Nc:(((rd l0 0) / 16) !=4)=false:=kL zB;clear zB
   (first|rw [uy]|(simp only [gK,kD];rw [uy])|skip)
   by_cases qX:(wrap64 ((wrap64 (Go.bits .and .u8 (rd l0 0) 15))*4))<20
   ·rw [aq qX] at H
    have BA:decide ((wrap64 ((wrap64 (Go.bits .and .u8 (rd l0 0) 15))*4))<20)=true:=bN qX;clear qX;have H':=aa.mk H;clear H;have EE:0<=(0:Int):=(by omega)
    have EF:0<(l0.length:Int):=gA;obtain ⟨KL,UF,lK⟩:=Kd.dG gj.out 0 EE EF;obtain rfl:nj=KL:=(by injection UF)
    have ZU:(0<l0.length)=True:=eq_true (by omega)
    (try rw [show ((0:Int)).toNat=0 from rfl] at lK)
    (try rw [Addr.add_zero'] at lK)
    replace lK:=(HB.out.cell (dF w _ lK)).trans lK;replace EE:=eq_true EE;replace EF:=eq_true EF
    go_wp2
    go_meet
    case rel=>exact ⟨_,(true),(by first|rfl|(simp;done)|(simp [*];done)),H',⟨by first|omega|exact Nat.le_refl _⟩,⟨kz dO⟩,⟨bz HB⟩⟩
   rw [av qX] at H
   have BA:decide ((wrap64 ((wrap64 (Go.bits .and .u8 (rd l0 0) 15))*4))<20)=false:=gN qX;clear qX;have H':=aa.mk H;clear H;have EE:0<=(0:Int):=(by omega)
   have EF:0<(l0.length:Int):=gA;obtain ⟨KL,UF,lK⟩:=Kd.dG gj.out 0 EE EF;obtain rfl:nj=KL:=(by injection UF)
   have ZU:(0<l0.length)=True:=eq_true (by omega)
   (try rw [show ((0:Int)).toNat=0 from rfl] at lK)
   (try rw [Addr.add_zero'] at lK)
   replace lK:=(HB.out.cell (dF w _ lK)).trans lK;replace EE:=eq_true EE;replace EF:=eq_true EF
   go_wp2
   go_meet
   case rel=>exact ⟨_,(decide ((wrap64 (sY))<(wrap64 ((wrap64 (Go.bits .and .u8 (rd l0 0) 15))*4)))),(by first|rfl|(simp;done)|(simp [*];done)),H',⟨by first|omega|exact Nat.le_refl _⟩,⟨kz dO⟩,⟨bz HB⟩⟩
  rw [av zB] at H
  have uy:(((rd l0 0) / 16)==4)=false:=fq zB;have Nc:(((rd l0 0) / 16) !=4)=true:=lf zB
  (first|rw [uy]|(simp only [gK,kD];rw [uy])|skip)
  have H':=aa.mk H;clear H;have EE:0<=(0:Int):=(by omega)
  have EF:0<(l0.length:Int):=gA;obtain ⟨KL,UF,lK⟩:=Kd.dG gj.out 0 EE EF;obtain rfl:nj=KL:=(by injection UF)
  have ZU:(0<l0.length)=True:=eq_true (by omega)
  (try rw [show ((0:Int)).toNat=0 from rfl] at lK)
  (try rw [Addr.add_zero'] at lK)
  replace lK:=(HB.out.cell (dF w _ lK)).trans lK;replace EE:=eq_true EE;replace EF:=eq_true EF
  go_wp2
  go_meet
  case rel=>exact ⟨_,(true),(by first|rfl|(simp;done)|(simp [*];done)),H',⟨by first|omega|exact Nat.le_refl _⟩,⟨kz dO⟩,⟨bz HB⟩⟩
 clear HC7
 try clear c2
 try clear j4
 try clear mq
 try clear c5
 try clear mJ
 try clear qn
 try clear rU
 try clear UD
 try clear UE
 obtain ⟨kq,Ol,rfl,HA,HJ6,dO,HB⟩:=hcut
 cases kq with
 |zero=>exact absurd HA.out (by simp [bC.j0])
 |succ kj6=>
  have H:=HA.out;clear HA;simp only [bC.j0] at H
  by_cases uQ:Ol=true
  ·subst uQ
   have H1:(some (0,0,0,0,0,0,0,0,([]:List Int),([]:List Int),21))=some (r1,r2,r3,r4,r5,r6,r7,r8,r9,uL,Ct):=by rw [aq rfl] at H;exact H
   clear H;have H:=H1;clear H1;simp only [Option.some.injEq,Prod.mk.injEq] at H
   obtain ⟨rfl,rfl,rfl,rfl,rfl,rfl,rfl,rfl,rfl,rfl,rfl⟩:=H;have TR:=ru dO.out;have TS:=ae dO.out
   go_wp2
   refine bodyPost_ret (fG rfl _ _ dZ 73 jL (0,0) _ rfl (by (repeat (first|with_reducible refine aQ ?_ _|with_reducible refine aJ ?_|with_reducible refine aM ?_ _|refine bK (cs:=jL) ?_ _ _ rfl));(with_reducible repeat (first|refine aQ ?_ _|refine aJ ?_|refine aM ?_ _));exact dO.out) Try.underlying73 rfl (by kernel_rfl)) rfl ?_
   exact ⟨_,_,by first|rfl|(simp [aj,ak]<;>rfl)|(simp [*,aj,ak]<;>rfl),by first|exact Kd.bX _ _ _ _ _|exact Kd.jn _ _ _ _ _|exact Kd.jo _ _ _ _ _|exact Kd.jl _ _ _ _ _|exact Kd.jm _ _ _ _ _,by first|exact Kd.bX _ _ _ _ _|exact Kd.jn _ _ _ _ _|exact Kd.jo _ _ _ _ _|exact Kd.jl _ _ _ _ _|exact Kd.jm _ _ _ _ _,bz HB⟩
  replace uQ:=zE uQ
  subst uQ;have H1:(if (l0.length:Int)<(wrap64 ((wrap64 (Go.bits .and .u8 (rd l0 0) 15))*4)) then (bC.j1 kj6 l0 (wrap64 ((wrap64 (Go.bits .and .u8 (rd l0 0) 15))*4)) (wrap64 (sY)) true) else (bC.j1 kj6 l0 (wrap64 ((wrap64 (Go.bits .and .u8 (rd l0 0) 15))*4)) (wrap64 (sY)) (decide ((l0.length:Int)<(wrap64 (sY))))))=some (r1,r2,r3,r4,r5,r6,r7,r8,r9,uL,Ct):=by rw [av (show ¬ (false=true) by decide)] at H;exact H
  clear H;have H:=H1;clear H1;have AdI:=aa.mk H;clear H
  go_upto_region 6 with (fail)
  go_cut [44] (fun v44 wc=>∃ (kq:Nat) (Ij:Bool),v44= .bool Ij /\ aa (bC.j1 kq l0 (wrap64 ((wrap64 (Go.bits .and .u8 (rd l0 0) 15))*4)) (wrap64 (sY)) Ij=some (r1,r2,r3,r4,r5,r6,r7,r8,r9,uL,Ct)) /\ aa (kq<=kj6) /\ aa (wc.heap[dZ]?=some (.cells #[.int .u8 0,.int .u8 0,.int .u8 0,.int .u16 0,.int .u8 0,.int .u16 0,.int .u32 0,.int .u32 0,(.slice none 0 0),(.slice none 0 0)] 73 (0,0))) /\ aa (Below w.heap.size w wc))
  case first=>
   have H:=AdI.out;clear AdI
   by_cases wS:(l0.length:Int)<(wrap64 ((wrap64 (Go.bits .and .u8 (rd l0 0) 15))*4))
   ·rw [aq wS] at H
    have wT:decide ((l0.length:Int)<(wrap64 ((wrap64 (Go.bits .and .u8 (rd l0 0) 15))*4)))=true:=bN wS;clear wS
    (first|rw [wT]|(simp only [gK,kD];rw [wT])|skip)
    have H':=aa.mk H;clear H
    go_wp2
    go_meet
    case rel=>exact ⟨_,(true),(by first|rfl|(simp;done)|(simp [*];done)),H',⟨by have:=HJ6.out;first|omega|exact Nat.le_refl _⟩,⟨kz dO⟩,⟨bz HB⟩⟩
   rw [av wS] at H
   have wT:decide ((l0.length:Int)<(wrap64 ((wrap64 (Go.bits .and .u8 (rd l0 0) 15))*4)))=false:=gN wS;clear wS
   (first|rw [wT]|(simp only [gK,kD];rw [wT])|skip)
   have H':=aa.mk H;clear H
   go_wp2
   go_meet
   case rel=>exact ⟨_,(decide ((l0.length:Int)<(wrap64 (sY)))),(by first|rfl|(simp;done)|(simp [*];done)),H',⟨by have:=HJ6.out;first|omega|exact Nat.le_refl _⟩,⟨kz dO⟩,⟨bz HB⟩⟩
  clear AdI
  try clear c2
  try clear j4
  try clear mq
  try clear c5
  try clear mJ
  try clear qn
  try clear uQ
  try clear rU
  try clear UD
  try clear UE
  obtain ⟨kq,Ij,rfl,HA,Ax2,dO,HB⟩:=hcut
  cases kq with
  |zero=>exact absurd HA.out (by simp [bC.j1])
  |succ KM=>
   have H:=HA.out;clear HA;simp only [bC.j1] at H
   by_cases LA:Ij=true
   ·subst LA
    have H1:(some (0,0,0,0,0,0,0,0,([]:List Int),([]:List Int),20))=some (r1,r2,r3,r4,r5,r6,r7,r8,r9,uL,Ct):=by rw [aq rfl] at H;exact H
    clear H;have H:=H1;clear H1;simp only [Option.some.injEq,Prod.mk.injEq] at H
    obtain ⟨rfl,rfl,rfl,rfl,rfl,rfl,rfl,rfl,rfl,rfl,rfl⟩:=H;have Ajf:=ru dO.out;have Ajg:=ae dO.out
    go_wp2
    refine bodyPost_ret (fG rfl _ _ dZ 73 jL (0,0) _ rfl (by (repeat (first|with_reducible refine aQ ?_ _|with_reducible refine aJ ?_|with_reducible refine aM ?_ _|refine bK (cs:=jL) ?_ _ _ rfl));(with_reducible repeat (first|refine aQ ?_ _|refine aJ ?_|refine aM ?_ _));exact dO.out) Try.underlying73 rfl (by kernel_rfl)) rfl ?_
    exact ⟨_,_,by first|rfl|(simp [aj,ak]<;>rfl)|(simp [*,aj,ak]<;>rfl),by first|exact Kd.bX _ _ _ _ _|exact Kd.jn _ _ _ _ _|exact Kd.jo _ _ _ _ _|exact Kd.jl _ _ _ _ _|exact Kd.jm _ _ _ _ _,by first|exact Kd.bX _ _ _ _ _|exact Kd.jn _ _ _ _ _|exact Kd.jo _ _ _ _ _|exact Kd.jl _ _ _ _ _|exact Kd.jm _ _ _ _ _,bz HB⟩
   replace LA:=zE LA
   subst LA
   have H1:(if 0<=(wrap64 ((wrap64 (Go.bits .and .u8 (rd l0 0) 15))*4)) then (if (wrap64 ((wrap64 (Go.bits .and .u8 (rd l0 0) 15))*4))<=(l0.length:Int) then ((bW.f KM 0 (l0.take ((wrap64 ((wrap64 (Go.bits .and .u8 (rd l0 0) 15))*4)):Int).toNat)).bind fun Co=>((bE.f KM Co).bind fun Bq=>(if Bq=65535 then ((aT.f l0 6).bind fun rF=>(if 1<(l0.length:Int) then ((aT.f l0 4).bind fun yG=>(if 8<(l0.length:Int) then (if 9<(l0.length:Int) then ((dN.f l0 12).bind fun Br=>((dN.f l0 16).bind fun Cp=>((eA.f l0 20 (wrap64 ((wrap64 (Go.bits .and .u8 (rd l0 0) 15))*4))).bind fun ED=>((eA.f l0 (wrap64 ((wrap64 (Go.bits .and .u8 (rd l0 0) 15))*4)) (wrap64 (sY))).bind fun Fl=>(some (rd l0 1,rd l0 8,rd l0 9,yG,(rF / 8192) % 256,Go.bits .and .u16 rF 8191,Br,Cp,ED,Fl,0)))))) else (none)) else (none))) else (none))) else (some (0,0,0,0,0,0,0,0,([]:List Int),([]:List Int),22))))) else (none)) else (none))=some (r1,r2,r3,r4,r5,r6,r7,r8,r9,uL,Ct):=by rw [av (show ¬ (false=true) by decide)] at H;exact H
   clear H;have H:=H1;clear H1;obtain ⟨qU,Au⟩:∃ j_:Int,(wrap64 ((wrap64 (Go.bits .and .u8 (rd l0 0) 15))*4))=j_:=⟨_,rfl⟩
   replace H:(if 0<=(qU) then (if (qU)<=(l0.length:Int) then ((bW.f KM 0 (l0.take ((qU):Int).toNat)).bind fun Co=>((bE.f KM Co).bind fun Bq=>(if Bq=65535 then ((aT.f l0 6).bind fun rF=>(if 1<(l0.length:Int) then ((aT.f l0 4).bind fun yG=>(if 8<(l0.length:Int) then (if 9<(l0.length:Int) then ((dN.f l0 12).bind fun Br=>((dN.f l0 16).bind fun Cp=>((eA.f l0 20 (qU)).bind fun ED=>((eA.f l0 (qU) (wrap64 (sY))).bind fun Fl=>(some (rd l0 1,rd l0 8,rd l0 9,yG,(rF / 8192) % 256,Go.bits .and .u16 rF 8191,Br,Cp,ED,Fl,0)))))) else (none)) else (none))) else (none))) else (some (0,0,0,0,0,0,0,0,([]:List Int),([]:List Int),22))))) else (none)) else (none))=some (r1,r2,r3,r4,r5,r6,r7,r8,r9,uL,Ct):=by first|(rw [Au] at H;exact H)|(simp only [Au] at H|-;exact H)
   have AqI:(IntKind.i64.wrap ((wrap64 (Go.bits .and .u8 (rd l0 0) 15))*4))=qU:=(gK _).trans Au
   by_cases AW:0<=(qU)
   rotate_left
   ·rw [av AW] at H
    cases H
   rw [aq AW] at H
   have Rj:=eq_true AW;have XV:decide (0<=(qU))=true:=bN AW;clear AW
   by_cases LQ:(qU)<=(l0.length:Int)
   rotate_left
   ·rw [av LQ] at H
    cases H
   rw [aq LQ] at H
   have Aul:=eq_true LQ;have Aum:decide ((qU)<=(l0.length:Int))=true:=bN LQ;clear LQ;replace H:=dc H;obtain ⟨Co,Kr,H⟩:=H
   (try dsimp -simprocs only at H)
   have A21:=aa.mk Kr;clear Kr;replace H:=dc H;obtain ⟨Bq,RI,H⟩:=H
   (try dsimp -simprocs only at H)
   have A22:=aa.mk RI;clear RI
   by_cases Jg:Bq=65535
   rotate_left
   ·rw [av Jg] at H
    have RJ:(Bq==65535)=false:=fq Jg;have Ye:(Bq !=65535)=true:=lf Jg;simp only [Option.some.injEq,Prod.mk.injEq] at H
    obtain ⟨rfl,rfl,rfl,rfl,rfl,rfl,rfl,rfl,rfl,rfl,rfl⟩:=H;obtain ⟨Ax3,ZV,_,ZW,_⟩:=info_parts fY;obtain ⟨AqJ,Ajh,Aji⟩:=ow (P:=Try.prog) (Value.int .u8) 0 23 5 .i64 Try.underlying23 ZV ZW (some nj) c0 l0 (qU) gA gA jx.out;have UG:=aa.mk (Kd.dH (h1:=fun _=>rfl) (Ajh _ (Kd.dw gj.out)));have UH:=aa.mk Aji;clear Ajh Aji ZV ZW
    go_wp2_with (first|((with_reducible refine az (f:=80) rfl ?_);refine uf (some 49) rfl rfl Try.func80 (by kernel_rfl) rfl #[.int .u32 0,.slice (some nj) (l0.take ((qU):Int).toNat).length c0] rfl (by (try simp only [List.map_toArray,List.map_cons,List.map_nil]);first|done|(rw [show (l0.take ((qU):Int).toNat).length=(qU).toNat from (by rw [List.length_take];have h_:((qU):Int)<=(l0.length:Int):=gA;omega)]<;>rfl)|(simp only [Au];rfl)|rfl|(simp only [List.length_drop,List.length_take];rfl)|(go_simp;done)|(simp [Act.eval,IntKind.signed];done)|(simp [Act.eval,IntKind.signed];rfl)) ?_;(with_reducible refine (bW.calls KM 0 _ _ (l0.take ((qU):Int).toNat) Co _ ?aE ?aG A21.out).mono ?_);(case aE=>exact Kd.aW UG.out (bz HB));(case aG=>exact UH.out);rintro e MH ⟨rfl,hb⟩;refine ⟨_,rfl, ?_⟩;have aH:=aa.mk (bq (kz dO) hb);have aK:=aa.mk (au (bz HB) hb);clear dO;clear HB;have dO:=aH;have HB:=aK;clear aH aK;(try clear hb);(try clear hb2);(try clear hk);(try clear hi))|((with_reducible refine az (f:=79) rfl ?_);refine gL 50 Try.func79 #[.int .u32 Co] ?_;(with_reducible refine (bE.calls KM Co Bq _ A22.out).mono ?_);rintro e w' ⟨rfl,⟨nd,rfl⟩⟩;refine ⟨_,rfl, ?_⟩;(try (rw [fu MH];generalize jK:World.drewN MH _=MH;have aH:aa (MH.heap[dZ]?=some (.cells jL 73 (0,0))):=⟨by rw [<- jK];exact (kz dO)⟩;have aK:aa (Below w.heap.size w MH):=⟨by rw [<- jK];exact bz HB⟩;clear dO HB jK;have dO:=aH;have HB:=aK;clear aH aK));have Amv:MH.cell? ⟨dZ,0,none⟩=some (.int .u8 0):=cz dO.out 0 rfl;have Amw:MH.cell? ⟨dZ,1,none⟩=some (.int .u8 0):=cz dO.out 1 rfl;have Amx:MH.cell? ⟨dZ,2,none⟩=some (.int .u8 0):=cz dO.out 2 rfl;have Amy:MH.cell? ⟨dZ,3,none⟩=some (.int .u16 0):=cz dO.out 3 rfl;have Amz:MH.cell? ⟨dZ,4,none⟩=some (.int .u8 0):=cz dO.out 4 rfl;have AmA:MH.cell? ⟨dZ,5,none⟩=some (.int .u16 0):=cz dO.out 5 rfl;have AmB:MH.cell? ⟨dZ,6,none⟩=some (.int .u32 0):=cz dO.out 6 rfl;have AmC:MH.cell? ⟨dZ,7,none⟩=some (.int .u32 0):=cz dO.out 7 rfl;have AmD:MH.cell? ⟨dZ,8,none⟩=some (.slice none 0 0):=cz dO.out 8 rfl;have AmE:MH.cell? ⟨dZ,9,none⟩=some (.slice none 0 0):=cz dO.out 9 rfl;have AmF:=ae dO.out 0;have AmG:=ae dO.out 1;have AmH:=ae dO.out 2;have AmI:=ae dO.out 3;have AmJ:=ae dO.out 4;have AmK:=ae dO.out 5;have AmL:=ae dO.out 6;have AmM:=ae dO.out 7;have AmN:=ae dO.out 8;have AmO:=ae dO.out 9))
    refine bodyPost_ret (fG rfl _ _ dZ 73 jL (0,0) _ rfl (by (repeat (first|with_reducible refine aQ ?_ _|with_reducible refine aJ ?_|with_reducible refine aM ?_ _|refine bK (cs:=jL) ?_ _ _ rfl));(with_reducible repeat (first|refine aQ ?_ _|refine aJ ?_|refine aM ?_ _));exact dO.out) Try.underlying73 rfl (by kernel_rfl)) rfl ?_
    exact ⟨_,_,by first|rfl|(simp [aj,ak]<;>rfl)|(simp only [<- Au];first|rfl|(simp [aj,ak]<;>rfl))|(simp [*,aj,ak]<;>rfl),by first|exact Kd.bX _ _ _ _ _|exact Kd.jn _ _ _ _ _|exact Kd.jo _ _ _ _ _|exact Kd.jl _ _ _ _ _|exact Kd.jm _ _ _ _ _,by first|exact Kd.bX _ _ _ _ _|exact Kd.jn _ _ _ _ _|exact Kd.jo _ _ _ _ _|exact Kd.jl _ _ _ _ _|exact Kd.jm _ _ _ _ _,bz HB⟩
   rw [aq Jg] at H
   have RJ:(Bq==65535)=true:=fF Jg;have Ye:(Bq !=65535)=false:=kL Jg;clear Jg;replace H:=dc H;obtain ⟨rF,Ajj,H⟩:=H
   (try dsimp -simprocs only at H)
   have A24:=aa.mk Ajj;clear Ajj
   by_cases Nw:1<(l0.length:Int)
   rotate_left
   ·rw [av Nw] at H
    cases H
   rw [aq Nw] at H
   have Aun:decide (1<(l0.length:Int))=true:=bN Nw;have Auo:decide (1<l0.length)=true:=bN (by omega);clear Nw;replace H:=dc H;obtain ⟨yG,Jh,H⟩:=H
   (try dsimp -simprocs only at H)
   have A26:=aa.mk Jh;clear Jh
   by_cases Vc:8<(l0.length:Int)
   rotate_left
   ·rw [av Vc] at H
    cases H
   rw [aq Vc] at H
   have AfO:decide (8<(l0.length:Int))=true:=bN Vc;have AfP:decide (8<l0.length)=true:=bN (by omega);clear Vc
   by_cases c28:9<(l0.length:Int)
   rotate_left
   ·rw [av c28] at H
    cases H
   rw [aq c28] at H
   have AfQ:decide (9<(l0.length:Int))=true:=bN c28;have Aup:decide (9<l0.length)=true:=bN (by omega);clear c28;replace H:=dc H;obtain ⟨Br,RK,H⟩:=H
   (try dsimp -simprocs only at H)
   have A29:=aa.mk RK;clear RK;replace H:=dc H;obtain ⟨Cp,Ajk,H⟩:=H
   (try dsimp -simprocs only at H)
   have wK:=aa.mk Ajk;clear Ajk;replace H:=dc H;obtain ⟨ED,Ta,H⟩:=H
   (try dsimp -simprocs only at H)
   have A31:=aa.mk Ta;clear Ta;replace H:=dc H;obtain ⟨Fl,SH,H⟩:=H
   (try dsimp -simprocs only at H)
   have A32:=aa.mk SH;clear SH;simp only [Option.some.injEq,Prod.mk.injEq] at H
   obtain ⟨rfl,rfl,rfl,rfl,rfl,rfl,rfl,rfl,rfl,rfl,rfl⟩:=H;obtain ⟨Ax4,ZX,_,ZY,_⟩:=info_parts fY;obtain ⟨AqK,Ajl,Ajm⟩:=ow (P:=Try.prog) (Value.int .u8) 0 23 5 .i64 Try.underlying23 ZX ZY (some nj) c0 l0 (qU) gA gA jx.out;have UG:=aa.mk (Kd.dH (h1:=fun _=>rfl) (Ajl _ (Kd.dw gj.out)));have UH:=aa.mk Ajm;clear Ajl Ajm ZX ZY
   try go_wp2_with (first|((with_reducible refine az (f:=80) rfl ?_);refine uf (some 49) rfl rfl Try.func80 (by kernel_rfl) rfl #[.int .u32 0,.slice (some nj) (l0.take ((qU):Int).toNat).length c0] rfl (by (try simp only [List.map_toArray,List.map_cons,List.map_nil]);first|done|(rw [show (l0.take ((qU):Int).toNat).length=(qU).toNat from (by rw [List.length_take];have h_:((qU):Int)<=(l0.length:Int):=gA;omega)]<;>rfl)|(simp only [Au];rfl)|rfl|(simp only [List.length_drop,List.length_take];rfl)|(go_simp;done)|(simp [Act.eval,IntKind.signed];done)|(simp [Act.eval,IntKind.signed];rfl)) ?_;(with_reducible refine (bW.calls KM 0 _ _ (l0.take ((qU):Int).toNat) Co _ ?aE ?aG A21.out).mono ?_);(case aE=>exact Kd.aW UG.out (bz HB));(case aG=>exact UH.out);rintro e LR ⟨rfl,hb⟩;refine ⟨_,rfl, ?_⟩;have aH:=aa.mk (bq (kz dO) hb);have aK:=aa.mk (au (bz HB) hb);clear dO;clear HB;have dO:=aH;have HB:=aK;clear aH aK;(try clear hb);(try clear hb2);(try clear hk);(try clear hi))|((with_reducible refine az (f:=79) rfl ?_);refine gL 50 Try.func79 #[.int .u32 Co] ?_;(with_reducible refine (bE.calls KM Co Bq _ A22.out).mono ?_);rintro e w' ⟨rfl,⟨nd,rfl⟩⟩;refine ⟨_,rfl, ?_⟩;(try (rw [fu LR];generalize jK:World.drewN LR _=LR;have aH:aa (LR.heap[dZ]?=some (.cells jL 73 (0,0))):=⟨by rw [<- jK];exact (kz dO)⟩;have aK:aa (Below w.heap.size w LR):=⟨by rw [<- jK];exact bz HB⟩;clear dO HB jK;have dO:=aH;have HB:=aK;clear aH aK)))|((with_reducible refine az (f:=64) rfl ?_);refine gL 54 Try.func64 #[.slice (some nj) l0.length c0,.int .i64 6] ?_;(with_reducible refine (aT.calls _ _ l0 6 rF _ ?aE ?aG A24.out).mono ?_);(case aE=>exact Kd.aW gj.out (bz HB));(case aG=>exact jx.out);rintro e w' ⟨rfl,⟨nd,rfl⟩⟩;refine ⟨_,rfl, ?_⟩;(try (rw [fu LR];generalize jK:World.drewN LR _=LR;have aH:aa (LR.heap[dZ]?=some (.cells jL 73 (0,0))):=⟨by rw [<- jK];exact (kz dO)⟩;have aK:aa (Below w.heap.size w LR):=⟨by rw [<- jK];exact bz HB⟩;clear dO HB jK;have dO:=aH;have HB:=aK;clear aH aK))))
   have aH:=aa.mk (aJ dO.out);have aK:=aa.mk (bf HB.out);clear dO;clear HB;have dO:=aH;have HB:=aK;clear aH aK;have AdJ:0<=(1:Int):=(by omega)
   have AdK:1<(l0.length:Int):=gA;obtain ⟨Ajn,AqL,wg⟩:=Kd.dG gj.out 1 AdJ AdK;have f8:=wg
   (try rw [show ((1:Int)).toNat=1 from rfl] at f8)
   (try rw [show 1*1=1 from rfl] at f8)
   (try simp only [Nat.reduceMul,Nat.reduceEqDiff,Go.Addr.add,↓reduceIte] at f8)
   obtain rfl:nj=Ajn:=(by injection AqL)
   (try simp only [show (1:Int).toNat=1 from rfl,Nat.reduceMul,Nat.reduceEqDiff,Go.Addr.add,↓reduceIte] at wg)
   have Auq:(1<l0.length)=True:=eq_true (by omega)
   (try rw [show ((1:Int)).toNat=1 from rfl] at wg)
   replace wg:=(HB.out.cell (dF w _ wg)).trans wg;replace AdJ:=eq_true AdJ;replace AdK:=eq_true AdK;have AdL:0<=(8:Int):=(by omega)
   have AdM:8<(l0.length:Int):=gA;obtain ⟨Ajo,AqM,wj⟩:=Kd.dG gj.out 8 AdL AdM;have f9:=wj
   (try rw [show ((8:Int)).toNat=8 from rfl] at f9)
   (try rw [show 8*1=8 from rfl] at f9)
   (try simp only [Nat.reduceMul,Nat.reduceEqDiff,Go.Addr.add,↓reduceIte] at f9)
   obtain rfl:nj=Ajo:=(by injection AqM)
   (try simp only [show (8:Int).toNat=8 from rfl,Nat.reduceMul,Nat.reduceEqDiff,Go.Addr.add,↓reduceIte] at wj)
   have Aur:(8<l0.length)=True:=eq_true (by omega)
   (try rw [show ((8:Int)).toNat=8 from rfl] at wj)
   replace wj:=(HB.out.cell (dF w _ wj)).trans wj;replace AdL:=eq_true AdL;replace AdM:=eq_true AdM;have AdN:0<=(9:Int):=(by omega)
   have AdO:9<(l0.length:Int):=gA;obtain ⟨Ajp,AqN,wk⟩:=Kd.dG gj.out 9 AdN AdO;have gh:=wk
   (try rw [show ((9:Int)).toNat=9 from rfl] at gh)
   (try rw [show 9*1=9 from rfl] at gh)
   (try simp only [Nat.reduceMul,Nat.reduceEqDiff,Go.Addr.add,↓reduceIte] at gh)
   obtain rfl:nj=Ajp:=(by injection AqN)
   (try simp only [show (9:Int).toNat=9 from rfl,Nat.reduceMul,Nat.reduceEqDiff,Go.Addr.add,↓reduceIte] at wk)
   have Aus:(9<l0.length)=True:=eq_true (by omega)
   (try rw [show ((9:Int)).toNat=9 from rfl] at wk)
   replace wk:=(HB.out.cell (dF w _ wk)).trans wk;replace AdN:=eq_true AdN;replace AdO:=eq_true AdO
   refine dB (n:=30) (S:=fun w'=>w'.cell? ⟨nj.block,nj.off+1,none⟩=some (.int .u8 (rd l0 1)) /\ w'.cell? ⟨nj.block,nj.off+8,none⟩=some (.int .u8 (rd l0 8)) /\ w'.cell? ⟨nj.block,nj.off+9,none⟩=some (.int .u8 (rd l0 9))) (ds:=[]) #[false,false,false,false,false,false,false,false,false,false,false,false,false,false,false,false,false,false,false,false,false,false,false,false,false,false,false,false,false,false] (by kernel_rfl) rfl rfl ⟨((HB.out.cell (dF w _ f8)).trans f8),((HB.out.cell (dF w _ f9)).trans f9),((HB.out.cell (dF w _ gh)).trans gh)⟩ (fun hHeld=> ?_);refine bF bC.Ajd bC.AdH (fun ax eu=> ?_);generalize LR.drew=AX at dO HB wg wj wk hHeld|-
   refine pz 0 55 ax ?_;refine pz 1 56 ax ?_;refine pz 3 58 ax ?_;refine pz 5 60 ax ?_;refine pz 6 61 ax ?_;refine pz 7 62 ax ?_;refine pz 8 63 ax ?_;refine pz 9 64 ax ?_;refine pz 10 65 ax ?_;refine pz 11 66 ax ?_;refine pz 13 68 ax ?_;refine pz 14 69 ax ?_;refine pz 16 71 ax ?_;refine pz 18 73 ax ?_;refine pz 20 75 ax ?_;refine pz 21 76 ax ?_;refine pz 23 78 ax ?_;refine pz 24 79 ax ?_;refine pz 25 80 ax ?_;refine gF (i:=2) (N:=some 57) (v:= ?_) (a':= ?_) #[true,true,true,true,false,true,true,true,true,true,true,true,false,true,true,false,true,false,true,false,true,true,false,true,true,true,false,false,false,false] rfl rfl (dm ax.out eu.out (by kernel_rfl)) (fun _ _ _ h=>h) (Or.inl ⟨by rfl, ?_⟩) hHeld ?_ ?_
   rotate_left
   ·rintro w' ⟨s0,s1,s2⟩
    go_simp
    with_reducible rfl
   rotate_left
   ·simp only [pG]
    rfl
   refine gF (i:=12) (N:=some 67) (v:= ?_) (a':= ?_) #[true,true,true,true,false,true,true,true,true,true,true,true,true,true,true,false,true,false,true,false,true,true,false,true,true,true,false,false,false,false] rfl rfl (dm ax.out eu.out (by kernel_rfl)) (fun _ _ _ h=>h) (Or.inl ⟨by rfl, ?_⟩) hHeld ?_ ?_
   rotate_left
   ·rintro w' ⟨s0,s1,s2⟩
    go_simp
    with_reducible rfl
   rotate_left
   ·simp only [pG]
    rfl
   refine gF (i:=15) (N:=some 70) (v:= ?_) (a':= ?_) #[true,true,true,true,false,true,true,true,true,true,true,true,true,true,true,true,true,false,true,false,true,true,false,true,true,true,false,false,false,false] rfl rfl (dm ax.out eu.out (by kernel_rfl)) (fun _ _ _ h=>h) (Or.inl ⟨by rfl, ?_⟩) hHeld ?_ ?_
   rotate_left
   ·rintro w' ⟨s0,s1,s2⟩
    go_simp
    with_reducible rfl
   rotate_left
   ·simp only [pG]
    rfl
   refine oz 4 (some 59) ax (fun K hK=> ?_);refine gG Try.func64 #[.slice (some nj) l0.length c0,.int .i64 4] ?_
   with_reducible refine (aT.calls _ _ l0 4 yG _ ?aE ?aG A26.out).mono ?_
   (case aE=>exact Kd.aW gj.out (bz HB))
   (case aG=>exact jx.out)
   rintro e w' ⟨rfl,⟨nd,rfl⟩⟩;refine ⟨_,rfl, ?_⟩;refine hK.out _ _ ⟨((HB.out.cell (dF w _ f8)).trans f8),((HB.out.cell (dF w _ f9)).trans f9),((HB.out.cell (dF w _ gh)).trans gh)⟩ (fun hHeld=> ?_);clear hK K;refine nz 59 ?_;refine oz 17 (some 72) ax (fun K hK=> ?_);refine gG Try.func81 #[.slice (some nj) l0.length c0,.int .i64 12] ?_
   with_reducible refine (dN.calls _ _ l0 12 Br _ ?aE ?aG A29.out).mono ?_
   (case aE=>exact Kd.aW gj.out (bz HB))
   (case aG=>exact jx.out)
   rintro e w' ⟨rfl,⟨nd,rfl⟩⟩;refine ⟨_,rfl, ?_⟩;refine hK.out _ _ ⟨((HB.out.cell (dF w _ f8)).trans f8),((HB.out.cell (dF w _ f9)).trans f9),((HB.out.cell (dF w _ gh)).trans gh)⟩ (fun hHeld=> ?_);clear hK K;refine nz 72 ?_;refine oz 19 (some 74) ax (fun K hK=> ?_);refine gG Try.func81 #[.slice (some nj) l0.length c0,.int .i64 16] ?_
   with_reducible refine (dN.calls _ _ l0 16 Cp _ ?aE ?aG wK.out).mono ?_
   (case aE=>exact Kd.aW gj.out (bz HB))
   (case aG=>exact jx.out)
   rintro e w' ⟨rfl,⟨nd,rfl⟩⟩;refine ⟨_,rfl, ?_⟩;refine hK.out _ _ ⟨((HB.out.cell (dF w _ f8)).trans f8),((HB.out.cell (dF w _ f9)).trans f9),((HB.out.cell (dF w _ gh)).trans gh)⟩ (fun hHeld=> ?_);clear hK K;refine nz 74 ?_;refine oz 22 (some 77) ax (fun K hK=> ?_);refine i9 Try.func65 (by kernel_rfl) rfl #[.slice (some nj) l0.length c0,.int .i64 20,.int .i64 (qU)] (by rfl) rfl rfl (by (try simp only [List.map_toArray,List.map_cons,List.map_nil]);first|done|(simp only [Au];rfl)|rfl|(simp only [List.length_drop,List.length_take];rfl)|(go_simp;done)|(simp [Act.eval,IntKind.signed];done)|(simp [Act.eval,IntKind.signed];rfl)) ?_
   with_reducible refine (eA.calls _ _ l0 20 (qU) ED _ ?aE ?aG A31.out).mono ?_
   (case aE=>exact Kd.aW gj.out (bz HB))
   (case aG=>exact jx.out)
   rintro e VM ⟨Ax5,rfl,gC,hb⟩;refine ⟨_,rfl, ?_⟩;have aH:=aa.mk (Kd.bP gC (af (bz HB)));have aK:=aa.mk (bq (kz dO) hb);have bt:=aa.mk (au (bz HB) hb);clear dO;clear HB;have F4:=aH;have dO:=aK;have HB:=bt;clear aH aK bt
   (try clear hb)
   (try clear hb2)
   (try clear hk)
   (try clear hi)
   (try clear gC)
   refine hK.out _ _ ⟨((HB.out.cell (dF w _ f8)).trans f8),((HB.out.cell (dF w _ f9)).trans f9),((HB.out.cell (dF w _ gh)).trans gh)⟩ (fun hHeld=> ?_);clear hK K;refine nz 77 ?_;refine oz 26 (some 81) ax (fun K hK=> ?_);refine i9 Try.func65 (by kernel_rfl) rfl #[.slice (some nj) l0.length c0,.int .i64 (qU),.int .i64 (wrap64 (sY))] (by rfl) rfl rfl (by (try simp only [List.map_toArray,List.map_cons,List.map_nil]);first|done|(simp only [Au];rfl)|rfl|(simp only [List.length_drop,List.length_take];rfl)|(go_simp;done)|(simp [Act.eval,IntKind.signed];done)|(simp [Act.eval,IntKind.signed];rfl)) ?_
   with_reducible refine (eA.calls _ _ l0 (qU) (wrap64 (sY)) Fl _ ?aE ?aG A32.out).mono ?_
   (case aE=>exact Kd.aW gj.out (bz HB))
   (case aG=>exact jx.out)
   rintro e w37 ⟨Ax6,rfl,gC,hb⟩;refine ⟨_,rfl, ?_⟩;have aH:=aa.mk (Kd.mQ (Kd.rz F4) (Kd.j3 gC) hb);have aK:=aa.mk (Kd.bP (Kd.qZ gC (Kd.ox (Kd.rz F4))) (af (bz HB)));have bt:=aa.mk (bq (kz dO) hb);have cC:=aa.mk (au (bz HB) hb);clear F4;clear dO;clear HB;have F4:=aH;have ZZ:=aK;have dO:=bt;have HB:=cC;clear aH aK bt cC
   (try clear hb)
   (try clear hb2)
   (try clear hk)
   (try clear hi)
   (try clear gC)
   obtain ⟨AdP,AdQ,Ajq⟩:=Kd.dn ZZ.out
   (first|subst Ajq|(injection Ajq with mT ry mU;have rA:=mT.symm;have rB:=mU.symm;clear mT ry mU;subst rA;subst rB))
   obtain ⟨Hi,Aj,Ma⟩:=Kd.dn F4.out
   (first|subst Ma|(injection Ma with mT ry mU;have rA:=mT.symm;have rB:=mU.symm;clear mT ry mU;subst rA;subst rB))
   refine hK.out _ _ ⟨((HB.out.cell (dF w _ f8)).trans f8),((HB.out.cell (dF w _ f9)).trans f9),((HB.out.cell (dF w _ gh)).trans gh)⟩ (fun hHeld=> ?_);clear hK K;refine nz 81 ?_;refine pz 27 82 ax ?_;refine oz 28 (none) ax (fun K hK=> ?_);have Aut:=ru dO.out;have AqO:=ae dO.out;refine wB (w1:= ?_) (by rfl) rfl ?_ ?_
   rotate_left
   ·go_simp
    rfl
   refine hK.out _ _ ⟨((cell_far (p:=⟨dZ,_,none⟩) (by first|exact eF f8 fW.out|exact eG f8 fW.out) _).trans (((cell_far (p:=⟨dZ,_,none⟩) (by first|exact eF f8 fW.out|exact eG f8 fW.out) _).trans (((cell_far (p:=⟨dZ,_,none⟩) (by first|exact eF f8 fW.out|exact eG f8 fW.out) _).trans (((cell_far (p:=⟨dZ,_,none⟩) (by first|exact eF f8 fW.out|exact eG f8 fW.out) _).trans (((cell_far (p:=⟨dZ,_,none⟩) (by first|exact eF f8 fW.out|exact eG f8 fW.out) _).trans (((cell_far (p:=⟨dZ,_,none⟩) (by first|exact eF f8 fW.out|exact eG f8 fW.out) _).trans (((cell_far (p:=⟨dZ,_,none⟩) (by first|exact eF f8 fW.out|exact eG f8 fW.out) _).trans (((cell_far (p:=⟨dZ,_,none⟩) (by first|exact eF f8 fW.out|exact eG f8 fW.out) _).trans (((cell_far (p:=⟨dZ,_,none⟩) (by first|exact eF f8 fW.out|exact eG f8 fW.out) _).trans (((cell_far (p:=⟨dZ,_,none⟩) (by first|exact eF f8 fW.out|exact eG f8 fW.out) _).trans (hHeld.1)))))))))))))))))))),((cell_far (p:=⟨dZ,_,none⟩) (by first|exact eF f9 fW.out|exact eG f9 fW.out) _).trans (((cell_far (p:=⟨dZ,_,none⟩) (by first|exact eF f9 fW.out|exact eG f9 fW.out) _).trans (((cell_far (p:=⟨dZ,_,none⟩) (by first|exact eF f9 fW.out|exact eG f9 fW.out) _).trans (((cell_far (p:=⟨dZ,_,none⟩) (by first|exact eF f9 fW.out|exact eG f9 fW.out) _).trans (((cell_far (p:=⟨dZ,_,none⟩) (by first|exact eF f9 fW.out|exact eG f9 fW.out) _).trans (((cell_far (p:=⟨dZ,_,none⟩) (by first|exact eF f9 fW.out|exact eG f9 fW.out) _).trans (((cell_far (p:=⟨dZ,_,none⟩) (by first|exact eF f9 fW.out|exact eG f9 fW.out) _).trans (((cell_far (p:=⟨dZ,_,none⟩) (by first|exact eF f9 fW.out|exact eG f9 fW.out) _).trans (((cell_far (p:=⟨dZ,_,none⟩) (by first|exact eF f9 fW.out|exact eG f9 fW.out) _).trans (((cell_far (p:=⟨dZ,_,none⟩) (by first|exact eF f9 fW.out|exact eG f9 fW.out) _).trans (hHeld.2.1)))))))))))))))))))),((cell_far (p:=⟨dZ,_,none⟩) (by first|exact eF gh fW.out|exact eG gh fW.out) _).trans (((cell_far (p:=⟨dZ,_,none⟩) (by first|exact eF gh fW.out|exact eG gh fW.out) _).trans (((cell_far (p:=⟨dZ,_,none⟩) (by first|exact eF gh fW.out|exact eG gh fW.out) _).trans (((cell_far (p:=⟨dZ,_,none⟩) (by first|exact eF gh fW.out|exact eG gh fW.out) _).trans (((cell_far (p:=⟨dZ,_,none⟩) (by first|exact eF gh fW.out|exact eG gh fW.out) _).trans (((cell_far (p:=⟨dZ,_,none⟩) (by first|exact eF gh fW.out|exact eG gh fW.out) _).trans (((cell_far (p:=⟨dZ,_,none⟩) (by first|exact eF gh fW.out|exact eG gh fW.out) _).trans (((cell_far (p:=⟨dZ,_,none⟩) (by first|exact eF gh fW.out|exact eG gh fW.out) _).trans (((cell_far (p:=⟨dZ,_,none⟩) (by first|exact eF gh fW.out|exact eG gh fW.out) _).trans (((cell_far (p:=⟨dZ,_,none⟩) (by first|exact eF gh fW.out|exact eG gh fW.out) _).trans (hHeld.2.2))))))))))))))))))))⟩ (fun hHeld=> ?_)
   clear hK K;refine pz 29 3 ax ?_;refine dz ax ?_
   try go_wp2
   refine bodyPost_ret (fG rfl _ _ dZ 73 #[.int .u8 (rd l0 1),.int .u8 (rd l0 8),.int .u8 (rd l0 9),.int .u16 yG,.int .u8 ((rF / 8192) % 256),.int .u16 (Go.bits .and .u16 rF 8191),.int .u32 Br,.int .u32 Cp,.slice Hi ED.length Aj,.slice AdP Fl.length AdQ] (0,0) _ rfl (by (with_reducible repeat (first|refine aQ ?_ _|refine aJ ?_|refine aM ?_ _));refine bK (cs:= #[.int .u8 (rd l0 1),.int .u8 (rd l0 8),.int .u8 (rd l0 9),.int .u16 yG,.int .u8 ((rF / 8192) % 256),.int .u16 (Go.bits .and .u16 rF 8191),.int .u32 Br,.int .u32 Cp,.slice Hi ED.length Aj,.slice none 0 0]) ?_ 9 _ rfl;(with_reducible repeat (first|refine aQ ?_ _|refine aJ ?_|refine aM ?_ _));refine bK (cs:= #[.int .u8 (rd l0 1),.int .u8 (rd l0 8),.int .u8 (rd l0 9),.int .u16 yG,.int .u8 ((rF / 8192) % 256),.int .u16 (Go.bits .and .u16 rF 8191),.int .u32 Br,.int .u32 Cp,.slice none 0 0,.slice none 0 0]) ?_ 8 _ rfl;(with_reducible repeat (first|refine aQ ?_ _|refine aJ ?_|refine aM ?_ _));refine bK (cs:= #[.int .u8 (rd l0 1),.int .u8 (rd l0 8),.int .u8 (rd l0 9),.int .u16 yG,.int .u8 ((rF / 8192) % 256),.int .u16 (Go.bits .and .u16 rF 8191),.int .u32 Br,.int .u32 0,.slice none 0 0,.slice none 0 0]) ?_ 7 _ rfl;(with_reducible repeat (first|refine aQ ?_ _|refine aJ ?_|refine aM ?_ _));refine bK (cs:= #[.int .u8 (rd l0 1),.int .u8 (rd l0 8),.int .u8 (rd l0 9),.int .u16 yG,.int .u8 ((rF / 8192) % 256),.int .u16 (Go.bits .and .u16 rF 8191),.int .u32 0,.int .u32 0,.slice none 0 0,.slice none 0 0]) ?_ 6 _ rfl;(with_reducible repeat (first|refine aQ ?_ _|refine aJ ?_|refine aM ?_ _));refine bK (cs:= #[.int .u8 (rd l0 1),.int .u8 (rd l0 8),.int .u8 (rd l0 9),.int .u16 yG,.int .u8 ((rF / 8192) % 256),.int .u16 0,.int .u32 0,.int .u32 0,.slice none 0 0,.slice none 0 0]) ?_ 5 _ rfl;(with_reducible repeat (first|refine aQ ?_ _|refine aJ ?_|refine aM ?_ _));refine bK (cs:= #[.int .u8 (rd l0 1),.int .u8 (rd l0 8),.int .u8 (rd l0 9),.int .u16 yG,.int .u8 0,.int .u16 0,.int .u32 0,.int .u32 0,.slice none 0 0,.slice none 0 0]) ?_ 4 _ rfl;(with_reducible repeat (first|refine aQ ?_ _|refine aJ ?_|refine aM ?_ _));refine bK (cs:= #[.int .u8 (rd l0 1),.int .u8 (rd l0 8),.int .u8 (rd l0 9),.int .u16 0,.int .u8 0,.int .u16 0,.int .u32 0,.int .u32 0,.slice none 0 0,.slice none 0 0]) ?_ 3 _ rfl;(with_reducible repeat (first|refine aQ ?_ _|refine aJ ?_|refine aM ?_ _));refine bK (cs:= #[.int .u8 (rd l0 1),.int .u8 (rd l0 8),.int .u8 0,.int .u16 0,.int .u8 0,.int .u16 0,.int .u32 0,.int .u32 0,.slice none 0 0,.slice none 0 0]) ?_ 2 _ rfl;(with_reducible repeat (first|refine aQ ?_ _|refine aJ ?_|refine aM ?_ _));refine bK (cs:= #[.int .u8 (rd l0 1),.int .u8 0,.int .u8 0,.int .u16 0,.int .u8 0,.int .u16 0,.int .u32 0,.int .u32 0,.slice none 0 0,.slice none 0 0]) ?_ 1 _ rfl;(with_reducible repeat (first|refine aQ ?_ _|refine aJ ?_|refine aM ?_ _));refine bK (cs:=jL) ?_ 0 _ rfl;(with_reducible repeat (first|refine aQ ?_ _|refine aJ ?_|refine aM ?_ _));exact dO.out) Try.underlying73 rfl (by kernel_rfl)) rfl ?_
   exact ⟨_,_,by first|rfl|(simp [aj,ak]<;>rfl)|(simp only [<- Au];first|rfl|(simp [aj,ak]<;>rfl))|(simp [*,aj,ak]<;>rfl),by (with_reducible repeat (first|apply Kd.fg|apply Kd.eV|apply Kd.fj));exact Kd.dA (Kd.eH (p:=⟨dZ,9,none⟩) (Kd.eH (p:=⟨dZ,8,none⟩) (Kd.eH (p:=⟨dZ,7,none⟩) (Kd.eH (p:=⟨dZ,6,none⟩) (Kd.eH (p:=⟨dZ,5,none⟩) (Kd.eH (p:=⟨dZ,4,none⟩) (Kd.eH (p:=⟨dZ,3,none⟩) (Kd.eH (p:=⟨dZ,2,none⟩) (Kd.eH (p:=⟨dZ,1,none⟩) (Kd.eH (p:=⟨dZ,0,none⟩) (Kd.mE F4.out dO.out (by decide)) (fun _ hk=>hk.2) (.int .u8 (rd l0 1))) (fun _ hk=>hk.2) (.int .u8 (rd l0 8))) (fun _ hk=>hk.2) (.int .u8 (rd l0 9))) (fun _ hk=>hk.2) (.int .u16 yG)) (fun _ hk=>hk.2) (.int .u8 ((rF / 8192) % 256))) (fun _ hk=>hk.2) (.int .u16 (Go.bits .and .u16 rF 8191))) (fun _ hk=>hk.2) (.int .u32 Br)) (fun _ hk=>hk.2) (.int .u32 Cp)) (fun _ hk=>hk.2) (.slice Hi ED.length Aj)) (fun _ hk=>hk.2) (.slice AdP Fl.length AdQ)) (fun _ hk=>hk.1.2),by (with_reducible repeat (first|apply Kd.fg|apply Kd.eV|apply Kd.fj));exact Kd.dA (Kd.eH (p:=⟨dZ,9,none⟩) (Kd.eH (p:=⟨dZ,8,none⟩) (Kd.eH (p:=⟨dZ,7,none⟩) (Kd.eH (p:=⟨dZ,6,none⟩) (Kd.eH (p:=⟨dZ,5,none⟩) (Kd.eH (p:=⟨dZ,4,none⟩) (Kd.eH (p:=⟨dZ,3,none⟩) (Kd.eH (p:=⟨dZ,2,none⟩) (Kd.eH (p:=⟨dZ,1,none⟩) (Kd.eH (p:=⟨dZ,0,none⟩) (Kd.mE ZZ.out dO.out (by decide)) (fun _ hk=>hk.2) (.int .u8 (rd l0 1))) (fun _ hk=>hk.2) (.int .u8 (rd l0 8))) (fun _ hk=>hk.2) (.int .u8 (rd l0 9))) (fun _ hk=>hk.2) (.int .u16 yG)) (fun _ hk=>hk.2) (.int .u8 ((rF / 8192) % 256))) (fun _ hk=>hk.2) (.int .u16 (Go.bits .and .u16 rF 8191))) (fun _ hk=>hk.2) (.int .u32 Br)) (fun _ hk=>hk.2) (.int .u32 Cp)) (fun _ hk=>hk.2) (.slice Hi ED.length Aj)) (fun _ hk=>hk.2) (.slice AdP Fl.length AdQ)) (fun _ hk=>hk.1.2),bz HB⟩
end Go.Proofs.Ytkmimamminddiaa.PB
namespace Go.Proofs.Ytkmimamminddiaa.Pure
open Go.RowKit Go.Proofs.Ytkmimamminddiaa.PB Go.Proofs.ah.bT Go.Proofs.ah.cY
open Go.Proofs.Ytkmimamminddiaa.Spec Go.Proofs.Ytkmimamminddiaa.jJ Go.Proofs.Ytkmimamminddiaa.nh
theorem CZ {l:List Int} (h:gJ l) (i:Nat) (hi:i+2<=l.length) (hl:l.length<=1000000000):dD.f l (i:Int)=some (iX l i):=iP h i hi hl
theorem KN {l:List Int} (h:gJ l) (i:Nat) (hi:i+4<=l.length) (hl:l.length<=1000000000):jb.f l (i:Int)=some (vU l i):=qQ h i hi hl
theorem F5 (l:List Int) (hl:l.length<=1000000000):ij.f l=some l:=by
 unfold ij.f;rw [aq (by omega)]
theorem EG {c:Prop} [Decidable c] (h:c) (e:Int):dW.f (decide c) e=some ():=by
 unfold dW.f;rw [bN h,aq rfl]
theorem Z0 (i:Nat) (hi:i<=16) {x:Int} (h₀:0<=x) (h₁:x<=65535):Go.bits .and .u16 x (2 ^ i - 1)=x % 2 ^ i:=bits_mask .u16 16 (by decide) Bm i hi x h₀ (by omega)
def cU (l:List Int):Int:=4*(l.getD 0 0 % 16)
theorem lM (l:List Int):0<=cU l /\ cU l<=60:=by unfold cU;omega
theorem Av {l:List Int} (h:gJ l):wrap64 (4*(wrap64 (Go.bits .and .u8 (rd l 0) 15)))=cU l:=by
 have hg:=h.getD 0;have ea:Go.bits .and .u8 (rd l 0) 15=l.getD 0 0 % 16:=by rw [gU l 0 0 rfl];exact Ug 4 (by omega) hg.1 hg.2
 rw [ea,bZ (n:=l.getD 0 0 % 16) (by omega) (by omega),bZ (by omega) (by omega)]
 rfl
theorem F6 {l:List Int} (h:gJ l):wrap64 ((wrap64 (Go.bits .and .u8 (rd l 0) 15))*4)=cU l:=by
 have hg:=h.getD 0;have ea:Go.bits .and .u8 (rd l 0) 15=l.getD 0 0 % 16:=by rw [gU l 0 0 rfl];exact Ug 4 (by omega) hg.1 hg.2
 rw [ea,bZ (n:=l.getD 0 0 % 16) (by omega) (by omega),bZ (by omega) (by omega)];unfold cU;omega
def sS (l:List Int):Int:=norm (kW (words (l.take (cU l).toNat)))
def Ik (l:List Int):Prop:=¬ (l.getD 0 0 / 16=4 /\ cU l>=20 /\ iX l 2>=cU l)
instance (l:List Int):Decidable (Ik l):=inferInstanceAs (Decidable (¬ _))
def AdR (l:List Int):Int×Int×Int×Int×Int×Int×Int×Int×List Int×List Int:=
 (l.getD 1 0,l.getD 8 0,l.getD 9 0,iX l 4,iX l 6 / 8192,iX l 6 % 8192,vU l 12,vU l 16,(l.take (cU l).toNat).drop 20,(l.take (iX l 2).toNat).drop (cU l).toNat)
def Aw (l:List Int):Int×Int×Int×Int×Int×Int×Int×Int×List Int×List Int×Int:=
 if l.length<20 then (0,0,0,0,0,0,0,0,[],[],20) else if Ik l then (0,0,0,0,0,0,0,0,[],[],21) else if (l.length:Int)<iX l 2 then (0,0,0,0,0,0,0,0,[],[],20) else if sS l≠65535 then (0,0,0,0,0,0,0,0,[],[],22) else
 (l.getD 1 0,l.getD 8 0,l.getD 9 0,iX l 4,iX l 6 / 8192,iX l 6 % 8192,vU l 12,vU l 16,(l.take (cU l).toNat).drop 20,(l.take (iX l 2).toNat).drop (cU l).toNat,0)
theorem P9 {l:List Int} (h:gJ l) (hl:l.length<=1000000000) (k:Nat) (hk:l.length+4<k):((gE.f k 0 l).bind fun a=>dU.f k a)=some (norm (kW (words l))):=by
 have hr:=lP (words l) 0 (by omega) (by omega) (fN l h);have hn:=nY (words l) 0 (by omega) (by omega) (fN l h);rw [add_eq 0 l h hl (by omega) (by omega) k (by omega),bD,fold_eq _ hr.1 hr.2 k (by omega),hn,Int.zero_add]
theorem F7 {l:List Int} (h:gJ l) (hl:l.length<=1000000000) (k:Nat) (hk:l.length+4<k):∃ a,gE.f k 0 l=some a /\ dU.f k a=some (norm (kW (words l))):=dc (P9 h hl k hk)
theorem MI {l:List Int} (h:gJ l) (hl:l.length<=1000000000) (k:Nat) (hk:l.length+4<k):∃ a,bW.f k 0 l=some a /\ bE.f k a=some (norm (kW (words l))):=by
 have hr:=lP (words l) 0 (by omega) (by omega) (fN l h);have hn:=nY (words l) 0 (by omega) (by omega) (fN l h);refine ⟨_,yf 0 l h hl (by omega) (by omega) k (by omega), ?_⟩;rw [qR _ hr.1 hr.2 k (by omega),hn,Int.zero_add]
theorem MJ {l:List Int} (h:gJ l) (hl:l.length<=1000000000) (h20:20<=l.length) (ho:¬ Ik l) (hs:¬ (l.length:Int)<iX l 2) (hx:sS l=65535) (k:Nat) (hk:l.length+5<k):aX.f k l=some (AdR l):=by
 obtain ⟨k,rfl⟩:∃ j,k=j+1:=⟨k - 1,by omega⟩
 have hh:=lM l;have hg:=eU h 2;have hb6:=eU h 6;have ho':l.getD 0 0 / 16=4 /\ cU l>=20 /\ iX l 2>=cU l:=Decidable.not_not.mp ho;obtain ⟨o1,o2,o3⟩:=ho';have p0:0<=cU l:=hh.1;have p1:cU l<=(l.length:Int):=by omega
 have p2:(0:Int)<(l.length:Int):=by omega
 have p3:(1:Int)<(l.length:Int):=by omega
 have p4:(8:Int)<(l.length:Int):=by omega
 have p5:(9:Int)<(l.length:Int):=by omega
 have p6:iX l 2<=(l.length:Int):=by omega
 have p7:((l.take (cU l).toNat).drop 20).length<=1000000000:=by rw [List.length_drop,List.length_take];omega
 have p8:((l.take (iX l 2).toNat).drop (cU l).toNat).length<=1000000000:=by rw [List.length_drop,List.length_take];omega
 have p9:(l.length:Int)>=20:=by omega
 have m1:dW.f (decide ((l.length:Int)>=20)) 20=some ():=EG p9 20;have m2:dW.f (decide (iX l 2>=cU l)) 21=some ():=EG o3 21;have m3:dW.f (decide ((l.length:Int)>=iX l 2)) 20=some ():=EG p6 20;have e2:=CZ h 2 (by omega) hl;have e4:=CZ h 4 (by omega) hl;have e6:=CZ h 6 (by omega) hl;have e12:=KN h 12 (by omega) hl;have ZL:=KN h 16 (by omega) hl;rw [show ((2:Nat):Int)=2 from rfl] at e2
 rw [show ((4:Nat):Int)=4 from rfl] at e4
 rw [show ((6:Nat):Int)=6 from rfl] at e6
 rw [show ((12:Nat):Int)=12 from rfl] at e12
 rw [show ((16:Nat):Int)=16 from rfl] at ZL
 have r0:rd l 0=l.getD 0 0:=gU l 0 0 rfl;have r1:rd l 1=l.getD 1 0:=gU l 1 1 rfl;have r8:rd l 8=l.getD 8 0:=gU l 8 8 rfl;have r9:rd l 9=l.getD 9 0:=gU l 9 9 rfl;have w2:wrap64 (iX l 2)=iX l 2:=bZ (by omega) (by omega);have hd:=Av h;obtain ⟨a,fa,fb⟩:=F7 (h.take (cU l).toNat) (by rw [List.length_take];omega) k (by rw [List.length_take];omega);have fx:norm (kW (words (l.take (cU l).toNat)))=65535:=hx;rw [fx] at fb
 have m22:dW.f ((65535:Int)==65535) 22=some ():=by unfold dW.f;rw [aq (by decide)]
 have ef:iX l 6 / 8192 % 256=iX l 6 / 8192:=by omega
 have ea:Go.bits .and .u16 (iX l 6) 8191=iX l 6 % 8192:=Z0 13 (by omega) hb6.1 hb6.2;unfold aX.f
 rw [m1,bD,aq p2,e2,bD,hd,w2,r0,aq o1,aq o2,m2,bD,aX.j0,m3,bD,aq p0,aq p1,fa,bD,fb,bD,m22,bD,e6,bD,aq p3,e4,bD,aq p4,aq p5,e12,bD,ZL,bD,aq o2,
  F5 _ p7,bD,aq o3,aq p6,F5 _ p8,bD,r1,r8,r9,ef,ea]
 rfl
theorem rW {l:List Int} (h:gJ l) (hl:l.length<=1000000000) (k:Nat) (hk:l.length+5<k):da.f k l=some (Aw l):=by
 have hh:=lM l;have hg:=eU h 2;have hd:=Av h;have r0:rd l 0=l.getD 0 0:=gU l 0 0 rfl;unfold da.f Aw
 by_cases c1:l.length<20
 ·rw [aq (by omega),aq c1]
 have e2:=CZ h 2 (by omega) hl
 rw [show ((2:Nat):Int)=2 from rfl] at e2
 have w2:wrap64 (iX l 2)=iX l 2:=bZ (by omega) (by omega);rw [av (by omega),av c1,e2,bD,hd,w2,r0]
 by_cases c2:Ik l
 ·rw [av c2,aq c2]
 rw [aq (Decidable.not_not.mp c2),av c2]
 by_cases c3:(l.length:Int)<iX l 2
 ·rw [aq c3,aq c3]
 rw [av c3,av c3]
 obtain ⟨a,fa,fb⟩:=F7 (h.take (cU l).toNat) (by rw [List.length_take];omega) k (by rw [List.length_take];omega);rw [fa,bD,fb,bD]
 by_cases c4:sS l=65535
 ·have fx:norm (kW (words (l.take (cU l).toNat)))=65535:=c4
  rw [aq fx,av (fun hne=>hne c4),MJ h hl (by omega) c2 c3 c4 k hk,bD]
  rfl
 have fx:¬ norm (kW (words (l.take (cU l).toNat)))=65535:=c4
 rw [av fx,aq c4]
theorem oP {l:List Int} (h:gJ l) (hl:l.length<=1000000000) (k:Nat) (hk:l.length+9<k):bC.f k l=some (Aw l):=by
 obtain ⟨k,rfl⟩:∃ j,k=j+2:=⟨k - 2,by omega⟩
 have hh:=lM l;have hg:=eU h 2;have hb6:=eU h 6;have hd:=F6 h;have r0:rd l 0=l.getD 0 0:=gU l 0 0 rfl;unfold bC.f Aw
 by_cases c1:l.length<20
 ·rw [aq (by omega),aq c1]
 have e2:=iP h 2 (by omega) hl
 rw [show ((2:Nat):Int)=2 from rfl] at e2
 have w2:wrap64 (iX l 2)=iX l 2:=bZ (by omega) (by omega);rw [av (by omega),av c1,aq (by omega),e2,bD,hd,w2,r0]
 by_cases c2:Ik l
 ·rw [aq c2]
  by_cases d1:l.getD 0 0 / 16=4
  ·rw [aq d1]
   by_cases d2:cU l<20
   ·rw [aq d2,bC.j0,aq rfl]
   have d3:iX l 2<cU l:=by
    refine Decidable.byContradiction fun hne=>c2 ⟨d1,by omega,by omega⟩
   rw [av d2,bN d3,bC.j0,aq rfl]
  rw [av d1,bC.j0,aq rfl]
 have ho':l.getD 0 0 / 16=4 /\ cU l>=20 /\ iX l 2>=cU l:=Decidable.not_not.mp c2
 obtain ⟨o1,o2,o3⟩:=ho';rw [av c2,aq o1,av (by omega),gN (by omega),bC.j0,av (by decide)]
 by_cases c3:(l.length:Int)<iX l 2
 ·rw [aq c3]
  by_cases d4:(l.length:Int)<cU l
  ·rw [aq d4,bC.j1,aq rfl]
  rw [av d4,bN c3,bC.j1,aq rfl]
 rw [av c3,av (by omega),gN c3,bC.j1,av (by decide),aq (by omega),aq (by omega)]
 obtain ⟨a,fa,fb⟩:=MI (h.take (cU l).toNat) (by rw [List.length_take];omega) k (by rw [List.length_take];omega);rw [fa,bD,fb,bD]
 by_cases c4:sS l=65535
 ·have fx:norm (kW (words (l.take (cU l).toNat)))=65535:=c4
  have e4:=iP h 4 (by omega) hl;have e6:=iP h 6 (by omega) hl;have e12:=qQ h 12 (by omega) hl;have ZL:=qQ h 16 (by omega) hl;rw [show ((4:Nat):Int)=4 from rfl] at e4
  rw [show ((6:Nat):Int)=6 from rfl] at e6
  rw [show ((12:Nat):Int)=12 from rfl] at e12
  rw [show ((16:Nat):Int)=16 from rfl] at ZL
  have r1:rd l 1=l.getD 1 0:=gU l 1 1 rfl;have r8:rd l 8=l.getD 8 0:=gU l 8 8 rfl;have r9:rd l 9=l.getD 9 0:=gU l 9 9 rfl;have f1:=Bn l 20 (cU l).toNat (by omega) (by omega) hl;have f2:=Bn l (cU l).toNat (iX l 2).toNat (by omega) (by omega) hl;rw [show ((20:Nat):Int)=20 from rfl,Int.toNat_of_nonneg (by omega)] at f1
  rw [Int.toNat_of_nonneg (by omega),Int.toNat_of_nonneg (by omega)] at f2
  have ef:iX l 6 / 8192 % 256=iX l 6 / 8192:=by omega
  have ea:Go.bits .and .u16 (iX l 6) 8191=iX l 6 % 8192:=Z0 13 (by omega) hb6.1 hb6.2;rw [aq fx,av (fun hne=>hne c4),e6,bD,aq (by omega),e4,bD,aq (by omega),aq (by omega),e12,bD,ZL,bD,f1,bD,f2,bD,r1,r8,r9,ef,ea]
 have fx:¬ norm (kW (words (l.take (cU l).toNat)))=65535:=c4
 rw [av fx,aq c4]
theorem both {l:List Int} (h:gJ l) (hl:l.length<=1000000000) (k:Nat) (hk:l.length+9<k):∃ s,da.f k l=some s /\ bC.f k l=some s /\ s=Aw l:=⟨_,rW h hl k (by omega),oP h hl k hk,rfl⟩
def uu (a t pr i fl cr s d:Int) (o l:List Int) (x:Int):List Int:=[64+(20+(o.length:Int)) / 4,a,(20+(o.length:Int)+(l.length:Int)) / 256 % 256,(20+(o.length:Int)+(l.length:Int)) % 256,i / 256 % 256,i % 256,(fl*8192+cr) / 256 % 256,(fl*8192+cr) % 256,t,pr,x / 256 % 256,x % 256,s / 16777216 % 256,s / 65536 % 256,s / 256 % 256,s % 256,d / 16777216 % 256,d / 65536 % 256,d / 256 % 256,d % 256]
theorem lS (a t pr i fl cr s d:Int) (o l:List Int) (x:Int):(uu a t pr i fl cr s d o l x).length=20:=rfl
def Fm (a t pr i fl cr s d:Int) (o l:List Int):Int:=ck (uu a t pr i fl cr s d o l 0++o)
def cQ (a t pr i fl cr s d:Int) (o l:List Int):List Int:=uu a t pr i fl cr s d o l (Fm a t pr i fl cr s d o l)++o++l
def wm (fl cr:Int) (o:List Int):Prop:=(o.length:Int) % 4≠0 \/ (o.length:Int)>40 \/ fl>7 \/ cr>8191
instance (fl cr:Int) (o:List Int):Decidable (wm fl cr o):=inferInstanceAs (Decidable (_ \/ _))
def Fo (a t pr i fl cr s d:Int) (o l:List Int):List Int×Int:=if wm fl cr o then ([],21) else if 20+(o.length:Int)+(l.length:Int)>65535 then ([],23) else (cQ a t pr i fl cr s d o l,0)
section
variable {a t pr i fl cr s d:Int} {o l:List Int}
theorem AA (ha:0<=a /\ a<=255) (ht:0<=t /\ t<=255) (hp:0<=pr /\ pr<=255) (ho:(o.length:Int)<=40) (x:Int):gJ (uu a t pr i fl cr s d o l x):=by
 unfold uu
 repeat (first|exact .nil|refine .cons (by omega) ?_)
theorem MK (ha:0<=a /\ a<=255) (ht:0<=t /\ t<=255) (hp:0<=pr /\ pr<=255) (ho:gJ o) (wG:(o.length:Int)<=40) (hl:l.length<=1000000000) (k:Nat) (hk:100<=k) {H:List Int} (hH:H=uu a t pr i fl cr s d o l 0):
  eO.l0 (k+1) H [s,d] 2 2 a t pr i fl cr s d o l=some (cQ a t pr i fl cr s d o l,0):=by
 subst hH;have hn:(uu a t pr i fl cr s d o l 0++o).length=20+o.length:=by rw [List.length_append,lS]
 have hset:((uu a t pr i fl cr s d o l 0++o).set (10:Int).toNat (Fm a t pr i fl cr s d o l / 256 % 256)).set (11:Int).toNat (Fm a t pr i fl cr s d o l % 256)=uu a t pr i fl cr s d o l (Fm a t pr i fl cr s d o l)++o:=rfl;have UI:mK.f k (uu a t pr i fl cr s d o l 0++o)=some (Fm a t pr i fl cr s d o l):=of_eq _ ((AA ha ht hp wG 0).append ho) (by rw [hn];omega) k (by rw [hn];omega) (by omega);have Qy:(uu a t pr i fl cr s d o l (Fm a t pr i fl cr s d o l)++o).length=20+o.length:=by rw [List.length_append,lS]
 rw [eO.l0,av (by omega),aq (by rw [lS];omega),bD,UI,bD,aq (by rw [hn];omega),aq (by rw [hn];omega),bD,hset,aq (by rw [Qy];omega)]
 rfl
theorem ior (h4:(o.length:Int) % 4=0) (wG:(o.length:Int)<=40):Go.bits .or .u8 64 ((wrap64 (Int.tdiv (20+(o.length:Int)) 4)) % 256)=64+(20+(o.length:Int)) / 4:=by
 have e:(wrap64 (Int.tdiv (20+(o.length:Int)) 4)) % 256=(20+(o.length:Int)) / 4:=by
  rw [Int.tdiv_eq_ediv_of_nonneg (by omega),bZ (by omega) (by omega)];omega
 rw [e];exact Ai7 6 (by omega) (by omega) (by omega) (by omega) (by omega) (by omega)
theorem Z1 (hf:0<=fl /\ fl<=7) (ho:0<=cr /\ cr<=8191):Go.bits .or .u16 (IntKind.u16.wrap ((IntKind.u16.wrap fl)*8192)) cr=fl*8192+cr:=by
 rw [zl (n:=fl) (by omega) (by omega),zl (n:=fl*8192) (by omega) (by omega)];exact Uh 13 (by omega) (by omega) (by omega) (by omega) (by omega) (by omega)
theorem yg (ha:0<=a /\ a<=255) (ht:0<=t /\ t<=255) (hp:0<=pr /\ pr<=255) (hf:0<=fl) (hg:0<=cr) (ho:gJ o) (hol:o.length<=1000000000) (hl:l.length<=1000000000) (k:Nat) (hk:200<=k):eO.f k a t pr i fl cr s d o l=some (Fo a t pr i fl cr s d o l):=by
 obtain ⟨k,rfl⟩:∃ j,k=j+5:=⟨k - 5,by omega⟩
 have w1:wrap64 (20+(o.length:Int))=20+(o.length:Int):=bZ (by omega) (by omega);unfold eO.f;rw [w1]
 by_cases cw:wm fl cr o
 ·have hx:Fo a t pr i fl cr s d o l=([],21):=by unfold Fo;rw [aq cw]
  rw [hx]
  by_cases c1:(o.length:Int) % 4=0
  ·rw [aq c1]
   by_cases c2:(o.length:Int)>40
   ·rw [aq c2,eO.j0,aq rfl]
   rw [av c2]
   by_cases c3:fl>7
   ·rw [aq c3,eO.j0,aq rfl]
   have c4:cr>8191:=by unfold wm at cw;omega
   rw [av c3,bN c4,eO.j0,aq rfl]
  rw [av c1,eO.j0,aq rfl]
 have cx:(o.length:Int) % 4=0 /\ (o.length:Int)<=40 /\ fl<=7 /\ cr<=8191:=by unfold wm at cw;omega
 obtain ⟨x1,x2,x3,x4⟩:=cx;have w2:wrap64 (65535 - (20+(o.length:Int)))=65535 - (20+(o.length:Int)):=bZ (by omega) (by omega);rw [aq x1,av (by omega),av (by omega),gN (by omega),eO.j0,av (by decide),w2];unfold Fo;rw [av cw]
 by_cases c5:20+(o.length:Int)+(l.length:Int)>65535
 ·rw [aq (by omega),aq c5]
 rw [av (by omega),av c5,bD]
 have w3:wrap64 (20+(o.length:Int)+(l.length:Int))=20+(o.length:Int)+(l.length:Int):=bZ (by omega) (by omega);have hlen:(([s,d]:List Int).length:Int)=2:=rfl;have r0:rd [s,d] 0=s:=rfl;have r1:rd [s,d] 1=d:=rfl;have n1:wrap64 (0+1)=1:=bZ (by omega) (by omega);have n2:wrap64 (1+1)=2:=bZ (by omega) (by omega);rw [ior x1 x2,Z1 ⟨hf,x3⟩ ⟨hg,x4⟩,w3,hlen];rw [eO.l0,aq (by omega),aq (by omega),hlen,aq (by omega),r0,bD,aq (by simp),n1];rw [eO.l0,aq (by omega),aq (by omega),hlen,aq (by omega),r1,bD,aq (by simp),n2];exact MK ha ht hp ho x2 hl _ (by omega) rfl
theorem EI (l:List Int) (x:Int) (h:l.length<=1000000000):bp.f l x=some (l++[x / 256 % 256,x % 256]):=by
 unfold bp.f;rw [bD,aq (by simp;omega)]
theorem KO (l:List Int) (x:Int) (h:l.length<=1000000000):dM.f l x=some (l++[x / 16777216 % 256,x / 65536 % 256,x / 256 % 256,x % 256]):=by
 unfold dM.f;rw [bD,aq (by simp;omega)]
theorem KP (ha:0<=a /\ a<=255) (ht:0<=t /\ t<=255) (hp:0<=pr /\ pr<=255) (ho:gJ o) (wG:(o.length:Int)<=40) (hl:l.length<=1000000000) (k:Nat) (hk:100<=k) {y:List Int} (hy:y=uu a t pr i fl cr s d o l 0++o):
  ((some (y:List Int)).bind fun XA=>((iK.f k XA).bind fun Aju=>(if 10<(XA.length:Int) then (if 11<(XA.length:Int) then ((some ((XA.set (10:Int).toNat ((Aju / 256) % 256)).set (11:Int).toNat ((Aju) % 256):List Int)).bind fun Ajv=>(if Ajv.length+l.length<140737488355328 then (some ((Ajv++l),(0:Int))) else (none))) else (none)) else (none))))=some (cQ a t pr i fl cr s d o l,0):=by
 subst hy;have hn:(uu a t pr i fl cr s d o l 0++o).length=20+o.length:=by rw [List.length_append,lS]
 have hset:((uu a t pr i fl cr s d o l 0++o).set (10:Int).toNat (Fm a t pr i fl cr s d o l / 256 % 256)).set (11:Int).toNat (Fm a t pr i fl cr s d o l % 256)=uu a t pr i fl cr s d o l (Fm a t pr i fl cr s d o l)++o:=rfl;have UI:iK.f k (uu a t pr i fl cr s d o l 0++o)=some (Fm a t pr i fl cr s d o l):=Us _ ((AA ha ht hp wG 0).append ho) (by rw [hn];omega) k (by rw [hn];omega) (by omega);have Qy:(uu a t pr i fl cr s d o l (Fm a t pr i fl cr s d o l)++o).length=20+o.length:=by rw [List.length_append,lS]
 rw [bD,UI,bD,aq (by rw [hn];omega),aq (by rw [hn];omega),bD,hset,aq (by rw [Qy];omega)]
 rfl
theorem lQ (ha:0<=a /\ a<=255) (ht:0<=t /\ t<=255) (hp:0<=pr /\ pr<=255) (hf:0<=fl) (hg:0<=cr) (ho:gJ o) (hol:o.length<=1000000000) (hl:l.length<=1000000000) (k:Nat) (hk:200<=k):aI.f k a t pr i fl cr s d o l=some (Fo a t pr i fl cr s d o l):=by
 obtain ⟨k,rfl⟩:∃ j,k=j+1:=⟨k - 1,by omega⟩
 have w1:wrap64 (20+(o.length:Int))=20+(o.length:Int):=bZ (by omega) (by omega);unfold aI.f
 by_cases cw:wm fl cr o
 ·have hx:Fo a t pr i fl cr s d o l=([],21):=by unfold Fo;rw [aq cw]
  rw [hx]
  by_cases c1:(o.length:Int) % 4=0
  ·rw [aq c1]
   by_cases c2:(o.length:Int)>40
   ·rw [aq c2,aI.j0,aq rfl]
   rw [av c2]
   by_cases c3:fl>7
   ·rw [aq c3,aI.j0,aq rfl]
   have c4:cr>8191:=by unfold wm at cw;omega
   rw [av c3,bN c4,aI.j0,aq rfl]
  rw [av c1,aI.j0,aq rfl]
 have cx:(o.length:Int) % 4=0 /\ (o.length:Int)<=40 /\ fl<=7 /\ cr<=8191:=by unfold wm at cw;omega
 obtain ⟨x1,x2,x3,x4⟩:=cx;have w2:wrap64 (65535 - (20+(o.length:Int)))=65535 - (20+(o.length:Int)):=bZ (by omega) (by omega);rw [aq x1,av (by omega),av (by omega),gN (by omega),aI.j0,av (by decide),w1,w2];unfold Fo;rw [av cw]
 by_cases c5:20+(o.length:Int)+(l.length:Int)>65535
 ·rw [aq (by omega),aq c5]
 rw [av (by omega),av c5]
 have w3:IntKind.u16.wrap (wrap64 (20+(o.length:Int)+(l.length:Int)))=20+(o.length:Int)+(l.length:Int):=by rw [bZ (by omega) (by omega),zl (by omega) (by omega)]
 rw [ior x1 x2,Z1 ⟨hf,x3⟩ ⟨hg,x4⟩,w3];rw [EI _ _ (by simp),bD,EI _ _ (by simp),bD,EI _ _ (by simp),bD,bD,aq (by simp),KO _ _ (by simp),bD,KO _ _ (by simp),bD,aq (by simp;omega)];exact KP ha ht hp ho x2 hl k (by omega) (congrArg (· ++o) rfl)
theorem KQ (x:Int) (m:List Int) (wG:(o.length:Int)<=40) (h4:(o.length:Int) % 4=0):cU (uu a t pr i fl cr s d o l x++m)=20+(o.length:Int):=by
 have e0:(uu a t pr i fl cr s d o l x++m).getD 0 0=64+(20+(o.length:Int)) / 4:=rfl;unfold cU;rw [e0];omega
theorem lR (ha:0<=a /\ a<=255) (ht:0<=t /\ t<=255) (hp:0<=pr /\ pr<=255) (ho:gJ o) (hl:gJ l) (wG:(o.length:Int)<=40):gJ (cQ a t pr i fl cr s d o l):=((AA ha ht hp wG _).append ho).append hl
theorem gD:(cQ a t pr i fl cr s d o l).length=20+o.length+l.length:=by
 unfold cQ;rw [List.length_append,List.length_append,lS]
end
end Go.Proofs.Ytkmimamminddiaa.Pure
namespace Go.Proofs.Ytkmimamminddiaa.Pure
open Go.RowKit Go.Proofs.Ytkmimamminddiaa.PB Go.Proofs.ah.bT Go.Proofs.ah.cY
open Go.Proofs.Ytkmimamminddiaa.Spec Go.Proofs.Ytkmimamminddiaa.jJ
theorem UJ (op:BinOp) (x y:Int):0<=Go.bits op .u32 x y /\ Go.bits op .u32 x y<=4294967295:=by
 have h:∀ n:Int,0<=IntKind.u32.wrap n /\ IntKind.u32.wrap n<=4294967295:=fun n=>by
  show 0<=n % 4294967296 /\ n % 4294967296<=4294967295
  omega
 exact h _
theorem Il (op:BinOp) (x y:Int):0<=Go.bits op .u8 x y /\ Go.bits op .u8 x y<=255:=by
 have h:∀ n:Int,0<=IntKind.u8.wrap n /\ IntKind.u8.wrap n<=255:=fun n=>by
  show 0<=n % 256 /\ n % 256<=255
  omega
 exact h _
def uJ (x:Int):Prop:=0<=x /\ x<=4294967295
def qV (x:Int):Prop:=0<=x /\ x<=65535
def U8 (x:Int):Prop:=0<=x /\ x<=255
theorem Qa (a b c d:Int):∃ r,cK.f a b c d=some r /\ uJ r:=⟨_,rfl,UJ _ _ _⟩
theorem n9 (a b c d:Int):∃ r,((cK.f a b c d).bind fun t=>some t)=some r /\ uJ r:=Qa a b c d
theorem KR (a:Int):∃ r,kY.f a=some r /\ uJ r:=by
 unfold kY.f
 split
 ·exact n9 _ _ _ _
 ·exact n9 _ _ _ _
theorem Z2 (k:Nat) (x y:Int) (b:Bool):∃ r,bQ.j1 (k+1) x y b=some r /\ uJ r:=by
 rw [bQ.j1]
 split
 ·exact n9 _ _ _ _
 ·split
  ·exact n9 _ _ _ _
  ·exact n9 _ _ _ _
theorem Z3 (k:Nat) (x y:Int) (b:Bool):∃ r,bQ.j0 (k+2) x y b=some r /\ uJ r:=by
 rw [bQ.j0]
 split
 ·exact n9 _ _ _ _
 ·split
  ·exact n9 _ _ _ _
  ·split
   ·exact n9 _ _ _ _
   ·split
    ·exact n9 _ _ _ _
    ·split
     ·exact Z2 _ _ _ _
     ·exact Z2 _ _ _ _
theorem wo (K:Nat) (hK:2<=K) (a b:Int):∃ r,bQ.f K a b=some r /\ uJ r:=by
 obtain ⟨k,rfl⟩:∃ j,K=j+2:=⟨K - 2,by omega⟩
 unfold bQ.f
 split
 ·exact Z3 _ _ _ _
 ·exact Z3 _ _ _ _
theorem F8 (a:Int):∃ r,iZ.f a=some r /\ qV r:=by
 have h:∀ n:Int,qV (IntKind.u16.wrap n):=fun n=>by
  show 0<=n % 65536 /\ n % 65536<=65535
  omega
 unfold iZ.f
 split
 ·exact ⟨_,rfl,h _⟩
 ·split
  ·exact ⟨_,rfl,by unfold qV;omega⟩
  ·exact ⟨_,rfl,h _⟩
theorem zw (a:Int) (ha:0<=a):l7.f a=some (rd [17,6,1,17] (a.tmod 4)) /\ (rd [17,6,1,17] (a.tmod 4)=17 \/ rd [17,6,1,17] (a.tmod 4)=6 \/ rd [17,6,1,17] (a.tmod 4)=1):=by
 have h1:a.tmod 4<4:=Int.tmod_lt_of_pos _ (by decide);have h0:0<=a.tmod 4:=Int.tmod_nonneg _ ha
 constructor
 ·unfold l7.f
  rw [bD,aq h0,aq (show a.tmod 4<((([17,6,1,17]:List Int)).length:Int) from h1)]
 ·generalize a.tmod 4=i at h1 h0|-
  obtain rfl|rfl|rfl|rfl:i=0 \/ i=1 \/ i=2 \/ i=3:=by omega
  ·exact .inl rfl
  ·exact .inr (.inl rfl)
  ·exact .inr (.inr rfl)
  ·exact .inl rfl
def pY (n:Int):List Int:=ql.take (n.tmod 16).toNat
theorem XB:gJ ql:=by
 intro x hx;simp only [ql,List.mem_cons,List.not_mem_nil,or_false] at hx
 omega
theorem F9 (n:Int):gJ (pY n):=XB.take _
theorem Ga (n:Int):(pY n).length<=16:=by
 unfold pY;rw [List.length_take];have:ql.length=16:=rfl
 omega
def ML (n:Int):List Int:=if Go.bits .and .u8 n 32=0 then [] else [1,1,1,0]
theorem Om (n:Int):gJ (ML n) /\ ((ML n).length:Int) % 4=0 /\ ((ML n).length:Int)<=4:=by
 unfold ML
 split
 ·exact ⟨.nil,rfl,by decide⟩
 ·refine ⟨fun x hx=> ?_,rfl,by decide⟩
  simp only [List.mem_cons,List.not_mem_nil,or_false] at hx
  omega
def UK (fl:Int):Int:=if Go.bits .and .u8 fl 1=0 then 8 else 0
def Qb (fr n:Int):Int:=Go.bits .or .u32 (fr % 4294967296*65536 % 4294967296) (n % 4294967296)
def xI (pr a b fr tp fl n:Int):List Int:=
 if pr=17 then mP fr tp (if Go.bits .and .u8 fl 64=0 then KI (sR a b fr tp (pY n)) else 0) (pY n)
 else if pr=6 then nL fr tp (n % 4294967296) 0 (Go.bits .and .u8 fl 23) 9 (65535 - norm (tT a b (nL fr tp (n % 4294967296) 0 (Go.bits .and .u8 fl 23) 9 0 0 (ML n) (pY n)))) 0 (ML n) (pY n)
 else fM.cQ (UK fl) 0 (ck (fM.cQ (UK fl) 0 0 (Qb fr n) (pY n))) (Qb fr n) (pY n)
theorem AdS (fl:Int):U8 (UK fl):=by
 unfold UK U8
 split<;>omega
theorem Oo (K:Nat) (hK:4000<=K) {pr a b fr tp fl n:Int} (ha:uJ a) (hb:uJ b) (hf:qV fr) (ht:qV tp):l9.f K pr a b fr tp fl n=some (xI pr a b fr tp fl n):=by
 have hd:=F9 n;have hl:=Ga n;have ho:=Om n;have hfl:=Il .and fl 23;unfold l9.f xI
 by_cases rH:pr=17
 ·rw [aq rH,aq rH]
  by_cases c64:Go.bits .and .u8 fl 64=0
  ·rw [aq c64,aq c64]
   have e1:=UB (c:=0) ha hb hf ht hd (by omega) K hK;unfold pY at e1 hl|-
   rw [e1,bD,vX _ _ _ (by omega),av (by omega)]
   rfl
  rw [av c64,av c64]
  unfold pY at hl|-
  rw [vX _ _ _ (by omega),av (by omega)]
  rfl
 rw [av rH,av rH]
 by_cases c6:pr=6
 ·rw [aq c6,aq c6]
  have h2:∀ o:List Int,gJ o ->((o.length:Int) % 4=0) ->((o.length:Int)<=4) ->((iR.f K a b fr tp (n % 4294967296) 0 (Go.bits .and .u8 fl 23) 9 0 0 o (pY n)).bind fun s=>(aD.f K fr tp (n % 4294967296) 0 (Go.bits .and .u8 fl 23) 9 s 0 o (pY n)).bind fun b=>some b.1)=some (nL fr tp (n % 4294967296) 0 (Go.bits .and .u8 fl 23) 9 (65535 - norm (tT a b (nL fr tp (n % 4294967296) 0 (Go.bits .and .u8 fl 23) 9 0 0 o (pY n)))) 0 o (pY n)):=fun o h1 h4 wG=>by
   rw [Ux ha hb hfl h1 h4 (by omega) hd (by omega) K hK,bD,zo (by omega) (by omega) K (by omega),CX h4 (by omega) (by omega)]
   rfl
  unfold ML at ho|-
  by_cases LB:Go.bits .and .u8 n 32=0
  ·rw [aq LB] at ho|-
   rw [aq LB];exact h2 [] ho.1 ho.2.1 ho.2.2
  rw [av LB] at ho|-
  rw [av LB];exact h2 _ ho.1 ho.2.1 ho.2.2
 rw [av c6,av c6]
 have h2:∀ t:Int,U8 t ->((fE.f K t 0 0 (Qb fr n) (pY n)).bind fun s=>(bG.f t 0 s (Qb fr n) (pY n)).bind fun b=>some b.1)=some (fM.cQ t 0 (ck (fM.cQ t 0 0 (Qb fr n) (pY n))) (Qb fr n) (pY n)):=fun t h1=>by
  rw [fM.Bp t 0 0 _ _ K hK (by omega) (fM.lR h1 (by omega) hd),bD,fM.lQ _ _ _ _ (by omega),av (by omega)]
  rfl
 unfold UK
 by_cases c1:Go.bits .and .u8 fl 1=0
 ·rw [aq c1,aq c1]
  exact h2 8 (by unfold U8;omega)
 rw [av c1,av c1]
 exact h2 0 (by unfold U8;omega)
theorem AB (pr a b fr tp fl n:Int):gJ (xI pr a b fr tp fl n) /\ (xI pr a b fr tp fl n).length<=50:=by
 have hd:=F9 n;have hl:=Ga n;have ho:=Om n;unfold xI
 split
 ·exact ⟨vY hd,by rw [qG];omega⟩
 ·split
  ·exact ⟨sQ (Il _ _ _) ho.1 hd,by rw [qF];omega⟩
  ·exact ⟨fM.lR (AdS fl) (by omega) hd,by rw [fM.gD];omega⟩
def KS (p8:Int):Int:=rd [3,11,12] (p8.tmod 3)
theorem XC (p8:Int):KS p8=3 \/ KS p8=11 \/ KS p8=12 \/ KS p8=0:=by
 unfold KS rd;generalize (p8.tmod 3).toNat=i
 match i with
 |0=>exact .inl rfl
 |1=>exact .inr (.inl rfl)
 |2=>exact .inr (.inr (.inl rfl))
 |n+3=>exact .inr (.inr (.inr rfl))
def EJ (pr s d fr tp p5 p8:Int):List Int:=cQ 0 3 pr 0 0 0 d s [] (xI pr d s tp fr p5 p8)
def Im (pr s d fr tp p5 p8:Int):List Int:=fM.cQ (KS p8) 0 (ck (fM.cQ (KS p8) 0 0 0 (EJ pr s d fr tp p5 p8))) 0 (EJ pr s d fr tp p5 p8)
theorem KT {a t pr i fl cr s d:Int} {o l:List Int} (hf:fl<=7) (hg:cr<=8191) (h4:(o.length:Int) % 4=0) (wG:(o.length:Int)<=40) (hl:(l.length:Int)<=3000):Fo a t pr i fl cr s d o l=(cQ a t pr i fl cr s d o l,0):=by
 unfold Fo;rw [av (by unfold wm;omega),av (by omega)]
theorem KU {pr s d fr tp p5 p8:Int} (hp:U8 pr):gJ (EJ pr s d fr tp p5 p8) /\ (EJ pr s d fr tp p5 p8).length<=70:=by
 obtain ⟨h1,h2⟩:=AB pr d s tp fr p5 p8;unfold EJ;refine ⟨lR (by omega) (by omega) hp .nil h1 (by decide), ?_⟩;rw [gD];have:([]:List Int).length=0:=rfl
 omega
theorem UL (p8:Int):U8 (KS p8):=by
 have:=XC p8;unfold U8
 omega
theorem Oq {pr s d fr tp p5 p8:Int} (hp:U8 pr):gJ (Im pr s d fr tp p5 p8) /\ (Im pr s d fr tp p5 p8).length<=80:=by
 obtain ⟨h1,h2⟩:=KU (s:=s) (d:=d) (fr:=fr) (tp:=tp) (p5:=p5) (p8:=p8) hp;unfold Im;exact ⟨fM.lR (UL p8) (by omega) h1,by rw [fM.gD];omega⟩
theorem Ajw (K:Nat) (hK:4000<=K) {pr s d fr tp p5 p7 p8:Int} {x:List Int} (hp:U8 pr) (hs:uJ s) (hd:uJ d) (hf:qV fr) (ht:qV tp):bA.er K pr s d fr tp p5 p7 p8 x=some (if p7.tmod 5=4 then (1,Im pr s d fr tp p5 p8) else (pr,x)):=by
 unfold bA.er
 by_cases c:p7.tmod 5=4
 ·rw [aq c,aq c]
  obtain ⟨b1,b2⟩:=AB pr d s tp fr p5 p8;obtain ⟨e1,e2⟩:=KU (s:=s) (d:=d) (fr:=fr) (tp:=tp) (p5:=p5) (p8:=p8) hp;rw [Oo K hK hd hs ht hf,bD,lQ (by omega) (by omega) hp (by omega) (by omega) .nil (by decide) (by omega) K (by omega),KT (by omega) (by omega) rfl (by decide) (by omega),bD]
  dsimp only
  have e3:=fM.Bp (rd [3,11,12] (p8.tmod 3)) 0 0 0 (EJ pr s d fr tp p5 p8) K hK (by omega) (fM.lR (UL p8) (by omega) e1);unfold EJ at e3 e2
  rw [e3,bD,fM.lQ _ _ _ _ (by omega),av (by omega),bD]
  rfl
 rw [av c,av c]
theorem Ot (p6 pr:Int) (hp:U8 pr):∃ t Iu fl cr o,bA.sw p6 pr=(t,Iu,fl,cr,o) /\ U8 t /\ U8 Iu /\ (0<=fl /\ fl<=2) /\ (0<=cr /\ cr<=5) /\ gJ o /\ (o.length:Int) % 4=0 /\ (o.length:Int)<=4:=by
 have h64:U8 64:=by unfold U8;omega
 unfold bA.sw
 split
 ·exact ⟨_,_,_,_,_,rfl,by unfold U8;omega,hp,by omega,by omega,.nil,rfl,by decide⟩
 ·split
  ·exact ⟨_,_,_,_,_,rfl,h64,hp,by omega,by omega,.nil,rfl,by decide⟩
  ·split
   ·exact ⟨_,_,_,_,_,rfl,h64,hp,by omega,by omega,.nil,rfl,by decide⟩
   ·split
    ·exact ⟨_,_,_,_,_,rfl,h64,by unfold U8;omega,by omega,by omega,.nil,rfl,by decide⟩
    ·split
     ·refine ⟨_,_,_,_,_,rfl,h64,hp,by omega,by omega,fun x hx=> ?_,rfl,by decide⟩
      simp only [List.mem_cons,List.not_mem_nil,or_false] at hx
      omega
     ·exact ⟨_,_,_,_,_,rfl,h64,hp,by omega,by omega,.nil,rfl,by decide⟩
theorem Ajy {p8 p9:Int} {b:List Int} (h:gJ b):gJ (bA.sp p8 p9 b) /\ (bA.sp p8 p9 b).length=b.length:=by
 unfold bA.sp
 split
 ·split
  ·exact ⟨h.set _ (Il _ _ _),by rw [List.length_set]⟩
  ·exact ⟨h,rfl⟩
 ·exact ⟨h,rfl⟩
theorem BR (K:Nat) (hK:4000<=K) (p0 p1 p2 p3 p4 p5 p6 p7 p8 p9 side n:Int) (h0:0<=p0):∃ s d fr tp,uJ s /\ uJ d /\ qV fr /\ qV tp /\ iZ.f p3=some fr /\ iZ.f p4=some tp /\
  bA.f K p0 p1 p2 p3 p4 p5 p6 p7 p8 p9 side n=some (bA.sp p8 p9 (cQ 0 (bA.sw p6 (if p7.tmod 5=4 then 1 else rd [17,6,1,17] (p0.tmod 4))).1 (bA.sw p6 (if p7.tmod 5=4 then 1 else rd [17,6,1,17] (p0.tmod 4))).2.1 (IntKind.u16.wrap p8) (bA.sw p6 (if p7.tmod 5=4 then 1 else rd [17,6,1,17] (p0.tmod 4))).2.2.1 (bA.sw p6 (if p7.tmod 5=4 then 1 else rd [17,6,1,17] (p0.tmod 4))).2.2.2.1 s d (bA.sw p6 (if p7.tmod 5=4 then 1 else rd [17,6,1,17] (p0.tmod 4))).2.2.2.2 (if p7.tmod 5=4 then Im (rd [17,6,1,17] (p0.tmod 4)) s d fr tp p5 p8 else xI (rd [17,6,1,17] (p0.tmod 4)) s d fr tp p5 p8))):=by
 obtain ⟨s0,e1,hs0⟩:=KR p1;obtain ⟨d0,e2,hd0⟩:=wo K (by omega) p2 (n % 256)
 obtain ⟨s,d,e3,hs,hd⟩:∃ s d,bA.sd K p1 p2 side n s0 d0=some (s,d) /\ uJ s /\ uJ d:=by
  unfold bA.sd
  split
  ·exact ⟨_,_,rfl,hs0,hd0⟩
  ·obtain ⟨s1,f1,hs1⟩:=wo K (by omega) p1 (n % 256)
   obtain ⟨d1,f2,hd1⟩:=wo K (by omega) ((5+p2.tmod 3) % 256) (n % 256);rw [f1,bD,f2,bD];exact ⟨_,_,rfl,hs1,hd1⟩
 obtain ⟨e4,Qx⟩:=zw p0 h0;obtain ⟨fr,e5,hfr⟩:=F8 p3;obtain ⟨tp,e6,Zt⟩:=F8 p4;refine ⟨s,d,fr,tp,hs,hd,hfr,Zt,e5,e6, ?_⟩;unfold bA.f;rw [e1,bD,e2,bD,e3,bD,e4,bD,e5,bD,e6,bD];generalize rd [17,6,1,17] (p0.tmod 4)=pr at Qx|-
 have Z4:U8 pr:=by unfold U8;omega
 dsimp only
 rw [Oo K hK hs hd hfr Zt,bD,Ajw K hK Z4 hs hd hfr Zt,bD];have b1:=AB pr s d fr tp p5 p8;have b2:=Oq (s:=s) (d:=d) (fr:=fr) (tp:=tp) (p5:=p5) (p8:=p8) Z4
 by_cases c:p7.tmod 5=4
 ·rw [aq c,aq c,aq c]
  obtain ⟨t,Iu,fl,cr,o,es,ht,SR,hfl,UI,ho,h4,wG⟩:=Ot p6 1 (by unfold U8;omega)
  dsimp only
  rw [es,lQ (by omega) ht SR hfl.1 UI.1 ho (by omega) (by omega) K (by omega),KT (by omega) (by omega) h4 (by omega) (by omega),bD]
 rw [av c,av c,av c]
 obtain ⟨t,Iu,fl,cr,o,es,ht,SR,hfl,UI,ho,h4,wG⟩:=Ot p6 pr Z4
 dsimp only
 rw [es,lQ (by omega) ht SR hfl.1 UI.1 ho (by omega) (by omega) K (by omega),KT (by omega) (by omega) h4 (by omega) (by omega),bD]
theorem KV (K:Nat) (hK:4000<=K) (p0 p1 p2 p3 p4 p5 p6 p7 p8 p9 side n:Int) (h0:0<=p0):∃ r,bA.f K p0 p1 p2 p3 p4 p5 p6 p7 p8 p9 side n=some r /\ gJ r /\ r.length<=110:=by
 obtain ⟨s,d,fr,tp,hs,hd,hfr,Zt,_,_,e⟩:=BR K hK p0 p1 p2 p3 p4 p5 p6 p7 p8 p9 side n h0;refine ⟨_,e, ?_⟩;have Qx:=(zw p0 h0).2;generalize rd [17,6,1,17] (p0.tmod 4)=pr at Qx|-
 have Z4:U8 pr:=by unfold U8;omega
 have hq:U8 (if p7.tmod 5=4 then 1 else pr):=by
  split
  ·unfold U8;omega
  ·exact Z4
 generalize (if p7.tmod 5=4 then 1 else pr)=q at hq|-
 obtain ⟨t,Iu,fl,cr,o,es,ht,SR,hfl,UI,ho,h4,wG⟩:=Ot p6 q hq;rw [es]
 have hx:gJ (if p7.tmod 5=4 then Im pr s d fr tp p5 p8 else xI pr s d fr tp p5 p8) /\ (if p7.tmod 5=4 then Im pr s d fr tp p5 p8 else xI pr s d fr tp p5 p8).length<=80:=by
  split
  ·exact Oq Z4
  ·obtain ⟨b1,b2⟩:=AB pr s d fr tp p5 p8
   exact ⟨b1,by omega⟩
 generalize (if p7.tmod 5=4 then Im pr s d fr tp p5 p8 else xI pr s d fr tp p5 p8)=x at hx|-
 have hb:gJ (cQ 0 t Iu (IntKind.u16.wrap p8) fl cr s d o x):=lR (by omega) ht SR ho hx.1 (by omega);obtain ⟨g1,g2⟩:=Ajy (p8:=p8) (p9:=p9) hb;refine ⟨g1, ?_⟩;rw [g2,gD]
 omega
end Go.Proofs.Ytkmimamminddiaa.Pure
namespace Go.Proofs.Ytkmimamminddiaa.PB
open Go.RowKit Go.Proofs.ah.bT Go.Proofs.ah.cY Go.Proofs.ah.iw
attribute [local go_sem] dI dJ eI eJ cO cP dK dL
end Go.Proofs.Ytkmimamminddiaa.PB
namespace Go.Proofs.Ytkmimamminddiaa.Pure
open Go.RowKit Go.Proofs.Ytkmimamminddiaa.PB Go.Proofs.ah.bT Go.Proofs.ah.cY
open Go.Proofs.Ytkmimamminddiaa.Spec Go.Proofs.Ytkmimamminddiaa.jJ
theorem nP:wrap64 (1+1)=2:=bZ (by omega) (by omega)
theorem w23:wrap64 (2+1)=3:=bZ (by omega) (by omega)
theorem LR:wrap64 (3+1)=4:=bZ (by omega) (by omega)
section
end
end Go.Proofs.Ytkmimamminddiaa.Pure
namespace Go.Proofs.Ytkmimamminddiaa.PB
open Go.RowKit Go.Proofs.ah.bT Go.Proofs.ah.cY Go.Proofs.ah.iw
attribute [local go_sem] dI dJ eI eJ cO cP dK dL
attribute [local go_sem] dI dJ eI eJ cO cP dK dL
attribute [local go_sem] dI dJ eI eJ cO cP dK dL
end Go.Proofs.Ytkmimamminddiaa.PB
namespace Go.Proofs.Ytkmimamminddiaa.Pure
open Go.RowKit Go.Proofs.Ytkmimamminddiaa.PB Go.Proofs.ah.bT Go.Proofs.ah.cY
open Go.Proofs.Ytkmimamminddiaa.Spec Go.Proofs.Ytkmimamminddiaa.jJ
theorem MM:U8 0:=by unfold U8;omega
theorem rN:qV 0:=by unfold qV;omega
theorem KW:uJ 0:=by unfold uJ;omega
theorem AE {l:List Int} (h:gJ l):∃ a t pr i fl cr s d o b e,Aw l=(a,t,pr,i,fl,cr,s,d,o,b,e) /\ U8 a /\ U8 t /\ U8 pr /\ qV i /\ (0<=fl /\ fl<=7) /\ (0<=cr /\ cr<=8191) /\ uJ s /\ uJ d /\ gJ o /\ (o.length:Int) % 4=0 /\ (o.length:Int)<=40 /\ gJ b /\ b.length<=l.length:=by
 have hn:∀ e:Int,∃ a t pr i fl cr s d o b e',((0:Int),(0:Int),(0:Int),(0:Int),(0:Int),(0:Int),(0:Int),(0:Int),([]:List Int),([]:List Int),e)=(a,t,pr,i,fl,cr,s,d,o,b,e') /\ U8 a /\ U8 t /\ U8 pr /\ qV i /\ (0<=fl /\ fl<=7) /\ (0<=cr /\ cr<=8191) /\ uJ s /\ uJ d /\ gJ o /\ (o.length:Int) % 4=0 /\ (o.length:Int)<=40 /\ gJ b /\ b.length<=l.length:=fun e=>
  ⟨0,0,0,0,0,0,0,0,[],[],e,rfl,MM,MM,MM,rN,by omega,by omega,KW,KW,.nil,rfl,by decide,.nil,Nat.zero_le _⟩
 have hh:=lM l;have h4:cU l % 4=0:=by unfold cU;omega
 have h6:=eU h 6;unfold Aw
 by_cases c1:l.length<20
 ·rw [aq c1];exact hn _
 rw [av c1]
 by_cases c2:Ik l
 ·rw [aq c2];exact hn _
 rw [av c2]
 by_cases c3:(l.length:Int)<iX l 2
 ·rw [aq c3];exact hn _
 rw [av c3]
 by_cases c4:sS l≠65535
 ·rw [aq c4];exact hn _
 rw [av c4]
 have c5:l.getD 0 0 / 16=4 /\ cU l>=20 /\ iX l 2>=cU l:=by
  unfold Ik at c2
  exact Decidable.not_not.1 c2
 have ho:(((l.take (cU l).toNat).drop 20).length:Int)=cU l - 20:=by
  rw [List.length_drop,List.length_take]
  omega
 refine ⟨_,_,_,_,_,_,_,_,_,_,_,rfl,h.getD _,h.getD _,h.getD _,eU h 4,⟨by omega,by omega⟩,⟨by omega,by omega⟩,uI h 12,uI h 16,(h.take _).drop _,by omega,by omega,(h.take _).drop _, ?_⟩;rw [List.length_drop,List.length_take]
 omega
theorem UM {l:List Int} (h:gJ l):∃ s d c b e,udg l=(s,d,c,b,e) /\ qV s /\ qV d /\ qV c /\ gJ b /\ b.length<=l.length:=by
 unfold udg
 split
 ·exact ⟨_,_,_,_,_,rfl,rN,rN,rN,.nil,Nat.zero_le _⟩
 ·split
  ·exact ⟨_,_,_,_,_,rfl,rN,rN,rN,.nil,Nat.zero_le _⟩
  ·split
   ·exact ⟨_,_,_,_,_,rfl,rN,rN,rN,.nil,Nat.zero_le _⟩
   ·refine ⟨_,_,_,_,_,rfl,eU h 0,eU h 2,eU h 6,(h.take _).drop _, ?_⟩
    rw [List.length_drop,List.length_take]
    omega
theorem Ou {l:List Int} (h:gJ l):∃ s d q a f w c u o b e,My l=(s,d,q,a,f,w,c,u,o,b,e) /\ qV s /\ qV d /\ uJ q /\ uJ a /\ U8 f /\ qV w /\ qV c /\ qV u /\ gJ o /\ (o.length:Int) % 4=0 /\ (o.length:Int)<=40 /\ gJ b /\ b.length<=l.length:=by
 have hn:∀ e:Int,∃ s d q a f w c u o b e',((0:Int),(0:Int),(0:Int),(0:Int),(0:Int),(0:Int),(0:Int),(0:Int),([]:List Int),([]:List Int),e)=(s,d,q,a,f,w,c,u,o,b,e') /\ qV s /\ qV d /\ uJ q /\ uJ a /\ U8 f /\ qV w /\ qV c /\ qV u /\ gJ o /\ (o.length:Int) % 4=0 /\ (o.length:Int)<=40 /\ gJ b /\ b.length<=l.length:=fun e=>
  ⟨0,0,0,0,0,0,0,0,[],[],e,rfl,rN,rN,KW,KW,MM,rN,rN,rN,.nil,rfl,by decide,.nil,Nat.zero_le _⟩
 have IW:=h.getD 12;unfold My
 by_cases c1:l.length<20
 ·rw [aq c1];exact hn _
 rw [av c1]
 by_cases c2:4*(l.getD 12 0 / 16)<20
 ·rw [aq c2];exact hn _
 rw [av c2]
 by_cases c3:(l.length:Int)<4*(l.getD 12 0 / 16)
 ·rw [aq c3];exact hn _
 rw [av c3]
 have ho:(((l.take (4*(l.getD 12 0 / 16)).toNat).drop 20).length:Int)=4*(l.getD 12 0 / 16) - 20:=by
  rw [List.length_drop,List.length_take]
  omega
 refine ⟨_,_,_,_,_,_,_,_,_,_,_,rfl,eU h 0,eU h 2,uI h 4,uI h 8,h.getD 13,eU h 14,eU h 16,eU h 18,(h.take _).drop _,by omega,by omega,h.drop _, ?_⟩;rw [List.length_drop]
 omega
theorem C0 {l:List Int} (h:gJ l):∃ t c s r b e,fM.Ii l=(t,c,s,r,b,e) /\ U8 t /\ U8 c /\ qV s /\ uJ r /\ gJ b /\ b.length<=l.length:=by
 unfold fM.Ii
 split
 ·exact ⟨_,_,_,_,_,_,rfl,MM,MM,rN,KW,.nil,Nat.zero_le _⟩
 ·exact ⟨_,_,_,_,_,_,rfl,h.getD _,h.getD _,eU h 2,uI h 4,h.drop _,by rw [List.length_drop];omega⟩
structure AF (a t i fl cr s d:Int) (o:List Int):Prop where
 ha:U8 a
 ht:U8 t
 hi:qV i
 hf:0<=fl /\ fl<=7
 hg:0<=cr /\ cr<=8191
 hs:uJ s
 hd:uJ d
 ho:gJ o
 h4:(o.length:Int) % 4=0
 wG:(o.length:Int)<=40
theorem AF.to {a t i fl cr s d s' d':Int} {o:List Int} (h:AF a t i fl cr s d o) (hs:uJ s') (hd:uJ d'):AF a t i fl cr s' d' o:=⟨h.ha,h.ht,h.hi,h.hf,h.hg,hs,hd,h.ho,h.h4,h.wG⟩
section
variable {a t i fl cr s d:Int} {o b:List Int}
theorem AF.len (h:AF a t i fl cr s d o) {pr:Int}:(cQ a t pr i fl cr s d o b).length=20+o.length+b.length:=gD
theorem AF.out (h:AF a t i fl cr s d o) {pr:Int} (hp:U8 pr) (hl:b.length<=2500) (K:Nat) (hK:4000<=K):eO.f K a t pr i fl cr s d o b=some (cQ a t pr i fl cr s d o b,0):=by
 have h1:=h.wG;rw [yg h.ha h.ht hp h.hf.1 h.hg.1 h.ho (by omega) (by omega) K (by omega),KT h.hf.2 h.hg.2 h.h4 h.wG (by omega)]
end
section
variable {a t i fl cr s d ts td tq ta tf tw tc tu:Int} {o tJ tb:List Int}
structure UN (ts td tq ta tf tw tu:Int) (tJ tb:List Int):Prop where
 hs:qV ts
 hd:qV td
 hq:uJ tq
 ha:uJ ta
 hf:U8 tf
 hw:qV tw
 hu:qV tu
 ho:gJ tJ
 h4:(tJ.length:Int) % 4=0
 wG:(tJ.length:Int)<=40
 hb:gJ tb
 hl:tb.length<=2000
theorem UN.to {ts' td':Int} (h:UN ts td tq ta tf tw tu tJ tb) (hs:qV ts') (hd:qV td'):UN ts' td' tq ta tf tw tu tJ tb:=⟨hs,hd,h.hq,h.ha,h.hf,h.hw,h.hu,h.ho,h.h4,h.wG,h.hb,h.hl⟩
end
def sU (t c:Int):Bool:=(t==8||t==0) && c==0
def iL (b:List Int):Option Int:=
 if b.length<20 then none else if ¬ b.getD 0 0 / 16=4 \/ cU b<20 \/ (b.length:Int)<cU b+8 then none
 else if b.getD 9 0=17 \/ b.getD 9 0=6 then some (cU b)
 else if b.getD 9 0=1 then (if sU (b.getD (cU b).toNat 0) (b.getD ((cU b).toNat+1) 0)=true then some (cU b) else none) else none
def sV (b:List Int) (h:Nat):Int×Int:=if b.getD 9 0=1 then (iX b (h+4),iX b (h+4)) else (iX b h,iX b (h+2))
def wq (b:List Int):Option (ng×ng):=(iL b).map fun h=>(⟨vU b 12,(sV b h.toNat).1⟩,⟨vU b 16,(sV b h.toNat).2⟩)
theorem zx {b:List Int} {h:Int} (e:iL b=some h):h=cU b /\ 20<=h /\ h+8<=(b.length:Int) /\ b.getD 0 0 / 16=4 /\ (b.getD 9 0=17 \/ b.getD 9 0=6 \/ b.getD 9 0=1):=by
 unfold iL at e
 by_cases c1:b.length<20
 ·rw [aq c1] at e;cases e
 rw [av c1] at e
 by_cases c2:¬ b.getD 0 0 / 16=4 \/ cU b<20 \/ (b.length:Int)<cU b+8
 ·rw [aq c2] at e;cases e
 rw [av c2] at e
 have c3:b.getD 0 0 / 16=4 /\ 20<=cU b /\ cU b+8<=(b.length:Int):=by
  refine ⟨Decidable.not_not.1 (fun h=>c2 (.inl h)), ?_, ?_⟩
  ·have:=fun h=>c2 (.inr (.inl h));omega
  ·have:=fun h=>c2 (.inr (.inr h));omega
 by_cases c4:b.getD 9 0=17 \/ b.getD 9 0=6
 ·rw [aq c4] at e
  obtain rfl:=cN e;exact ⟨rfl,c3.2.1,c3.2.2,c3.1,c4.elim .inl (fun h=> .inr (.inl h))⟩
 rw [av c4] at e
 by_cases c5:b.getD 9 0=1
 ·rw [aq c5] at e
  split at e
  ·obtain rfl:=cN e
   exact ⟨rfl,c3.2.1,c3.2.2,c3.1,.inr (.inr c5)⟩
  ·cases e
 rw [av c5] at e;cases e
theorem Ov (t c a d:Int) (l:List Int):kA.f t c a d l=some (sU t c):=by
 unfold kA.f kX.f sU
 by_cases h0:t=0
 ·subst h0
  rw [aq rfl,bD,aq rfl]
  rfl
 rw [av h0]
 by_cases h8:t=8
 ·subst h8
  rw [aq rfl,bD,aq rfl]
  rfl
 rw [av h8]
 have e1:(t==8)=false:=fq h8;have e2:(t==0)=false:=fq h0;rw [e1,e2]
 split
 ·rfl
 ·split
  ·rfl
  ·split<;>rfl
theorem xJ {b:List Int} (h:gJ b) (i:Nat) (hi:i+2<=b.length):cH.f (b.drop i)=some (iX b i):=by
 have hl:(b.drop i).length=b.length - i:=List.length_drop;unfold cH.f;rw [aq (by omega),aq (by omega)]
 have e0:rd (b.drop i) 0=b.getD i 0:=by
  rw [gU _ 0 0 rfl]
  simp [List.getD_eq_getElem?_getD]
 have e1:rd (b.drop i) 1=b.getD (i+1) 0:=by
  rw [gU _ 1 1 rfl]
  simp [List.getD_eq_getElem?_getD]
 rw [e0,e1,Et (h.getD i) (h.getD (i+1))]
 rfl
theorem C2 {b:List Int} (h:gJ b) (i:Nat) (hi:i+4<=b.length):dQ.f (b.drop i)=some (vU b i):=by
 have hl:(b.drop i).length=b.length - i:=List.length_drop;unfold dQ.f;rw [xJ h i (by omega),bD,aq (by omega),List.drop_drop,xJ h (i+2) (by omega),bD,Mx (eU h i) (eU h (i+2))]
 rfl
theorem Bs {b:List Int} (h:gJ b) (hl:b.length<=1000000000) (K:Nat) (hK:3<=K):∃ x,bO.f K b=some (x,(iL b).isSome) /\ ∀ y,iL b=some y ->x=y:=by
 obtain ⟨k,rfl⟩:∃ j,K=j+3:=⟨K - 3,by omega⟩
 have hh:=lM b;have hd:=Av h;have r0:rd b 0=b.getD 0 0:=gU b 0 0 rfl;have r9:rd b 9=b.getD 9 0:=gU b 9 9 rfl;have w8:wrap64 (cU b+8)=cU b+8:=bZ (by omega) (by omega);unfold bO.f iL
 by_cases c1:b.length<20
 ·rw [aq (show (b.length:Int)<20 by omega),aq c1]
  exact ⟨_,rfl,fun y e=>by cases e⟩
 rw [av (show ¬ (b.length:Int)<20 by omega),av c1,aq (by omega),hd,r0,w8]
 have jt:bO.j0 (k+3) b (cU b) true=some (0,false):=by rw [bO.j0,aq rfl]
 by_cases c2:b.getD 0 0 / 16=4
 rotate_left
 ·rw [av c2,aq (.inl c2),jt]
  exact ⟨_,rfl,fun y e=>by cases e⟩
 rw [aq c2]
 by_cases c3:cU b<20
 ·rw [aq c3,aq (.inr (.inl c3)),jt]
  exact ⟨_,rfl,fun y e=>by cases e⟩
 rw [av c3]
 by_cases c4:(b.length:Int)<cU b+8
 ·rw [aq (.inr (.inr c4)),bN c4,jt]
  exact ⟨_,rfl,fun y e=>by cases e⟩
 rw [av (fun hh=>hh.elim (fun x=>x c2) (fun x=>x.elim c3 c4)),gN c4,bO.j0,av (by decide),aq (show 9<(b.length:Int) by omega),r9]
 have j1t:∀ x,bO.j1 (k+2) b (cU b) x true=some (cU b,true):=fun x=>by rw [bO.j1,aq rfl]
 by_cases rH:b.getD 9 0=17
 ·rw [aq rH,aq (.inl rH),fF rH,j1t]
  exact ⟨_,rfl,fun y e=>cN e⟩
 rw [av rH]
 by_cases c6:b.getD 9 0=6
 ·rw [aq (.inr c6),fF c6,j1t]
  exact ⟨_,rfl,fun y e=>cN e⟩
 rw [av (fun hh=>hh.elim rH c6),fq c6,bO.j1,av (by decide)]
 by_cases c5:b.getD 9 0=1
 rotate_left
 ·rw [av c5,av c5]
  exact ⟨_,rfl,fun y e=>by cases e⟩
 rw [aq c5,aq c5,aq (by omega),aq (by omega)]
 have hdl:(b.drop (cU b).toNat).length=b.length - (cU b).toNat:=List.length_drop
 have e0:rd (b.drop (cU b).toNat) 0=b.getD (cU b).toNat 0:=by
  rw [gU _ 0 0 rfl]
  simp [List.getD_eq_getElem?_getD]
 have e1:rd (b.drop (cU b).toNat) 1=b.getD ((cU b).toNat+1) 0:=by
  rw [gU _ 1 1 rfl]
  simp [List.getD_eq_getElem?_getD]
 have e2:fZ.f (b.drop (cU b).toNat)=some (sU (b.getD (cU b).toNat 0) (b.getD ((cU b).toNat+1) 0)):=by
  unfold fZ.f;rw [aq (by omega),aq (by omega),e0,e1,Ov,bD]
 rw [e2,bD]
 by_cases c7:sU (b.getD (cU b).toNat 0) (b.getD ((cU b).toNat+1) 0)=true
 ·rw [aq c7,c7]
  exact ⟨_,rfl,fun y e=>cN e⟩
 rw [av c7,Bool.eq_false_iff.2 c7]
 exact ⟨_,rfl,fun y e=>by cases e⟩
theorem KX {b:List Int} (h:gJ b) (hl:b.length<=1000000000) (K:Nat) (hK:3<=K):cV.f K b=some (match wq b with|none=>([],false)|some p=>([p.1,p.2],true)):=by
 obtain ⟨x,e,hx⟩:=Bs h hl K hK;unfold cV.f wq;rw [e,bD]
 cases hw:iL b with
 |none=>rfl
 |some y=>
  obtain rfl:=hx y hw;obtain ⟨he,h20,h8,h4,hp⟩:=zx hw;have r9:rd b 9=b.getD 9 0:=gU b 9 9 rfl;have hr:=lM b;have w2:wrap64 (x+2)=x+2:=bZ (by omega) (by omega);have w4:wrap64 (x+4)=x+4:=bZ (by omega) (by omega);have t2:(x+2).toNat=x.toNat+2:=by omega
  have t4:(x+4).toNat=x.toNat+4:=by omega
  dsimp only [Option.isSome_some,Option.map_some];rw [aq rfl,aq (by omega),aq (by omega),xJ h _ (by omega),bD,w2,aq (by omega),aq (by omega),t2,xJ h _ (by omega),bD,aq (by omega),r9];unfold sV
  by_cases c:b.getD 9 0=1
  ·rw [aq c,aq c,w4,aq (by omega),aq (by omega),t4,xJ h _ (by omega),bD,aq (by omega),C2 h 12 (by omega),bD,aq (by omega),C2 h 16 (by omega),bD]
  rw [av c,av c,aq (by omega),C2 h 12 (by omega),bD,aq (by omega),C2 h 16 (by omega),bD]
section
variable {a t i fl cr s d mt mc ms mr:Int} {o mb:List Int}
def Qc (mt mc mr:Int) (mb:List Int):Int:=ck (fM.cQ mt mc 0 mr mb)
end
section
end
theorem XD {p8:Int} (h:0<=p8 /\ p8<=255):qV (IntKind.u16.wrap p8):=by
 rw [IntKind.wrap_u16];unfold qV
 omega
end Go.Proofs.Ytkmimamminddiaa.Pure
namespace Go.Proofs.Ytkmimamminddiaa.PB
open Go.RowKit Go.Proofs.ah.bT Go.Proofs.ah.cY Go.Proofs.ah.iw
def Ow (k:Nat) (r:LK) (si di:Int) (y:List Int):Option (List Int×Int):=(aI.f k r.a r.t r.pr r.i r.fl r.cr si di r.o y).bind fun z=>some (z.1,0)
def Ox.R4.T:Bool×List (List Nat×List Nat):=(true,[([],[]),([0],[0]),([],[]),([2],[2]),([0,1],[]),([4,1,0,1],[1,4]),([0,1,2,3,4,5],[]),([6,3,5,0,1,2,3,4,5],[3,6])])
theorem Ox.R4.tab:gB .any (opsOf Try.f33 4)=Ox.R4.T:=by kernel_rfl
theorem Ox.R4.bits:cS Ox.R4.T.2 [0,1,0,4,3,19,63,127]=true:=by kernel_rfl
def Ox.UO.T:Bool×List (List Nat×List Nat):=(true,[([],[]),([0],[0]),([],[]),([2],[2]),([0,1],[]),([4,1,0,1],[1,4]),([0,1,2,3,4,5],[]),([6,3,5,0,1,2,3,4,5],[3,6])])
theorem Ox.UO.tab:gB .any (opsOf Try.f33 17)=Ox.UO.T:=by kernel_rfl
theorem Ox.UO.bits:cS Ox.UO.T.2 [0,1,0,4,3,19,63,127]=true:=by kernel_rfl
def Ox.Tk.T:Bool×List (List Nat×List Nat):=(true,[([],[]),([0],[0]),([],[]),([2],[2]),([0,1],[]),([4,1,0,1],[1,4]),([0,1,2,3,4,5],[]),([6,3,5,0,1,2,3,4,5],[3,6])])
theorem Ox.Tk.tab:gB .any (opsOf Try.f33 23)=Ox.Tk.T:=by kernel_rfl
theorem Ox.Tk.bits:cS Ox.Tk.T.2 [0,1,0,4,3,19,63,127]=true:=by kernel_rfl
end Go.Proofs.Ytkmimamminddiaa.PB
namespace Go.Proofs.Ytkmimamminddiaa.Pure
open Go.RowKit Go.Proofs.Ytkmimamminddiaa.PB Go.Proofs.ah.bT Go.Proofs.ah.cY
open Go.Proofs.Ytkmimamminddiaa.Spec Go.Proofs.Ytkmimamminddiaa.jJ
theorem take_range (l:List Int) (n:Nat) (h:n<=l.length):l.take n=(List.range n).map (fun j=>l.getD j 0):=by
 apply List.ext_getElem?
 intro j
 by_cases hj:j<n
 ·rw [List.getElem?_take,aq hj,List.getElem?_map,List.getElem?_range hj,Option.map_some,List.getD_eq_getElem?_getD,List.getElem?_eq_getElem (by omega)]
  rfl
 rw [List.getElem?_eq_none (by rw [List.length_take];omega),List.getElem?_eq_none (by rw [List.length_map,List.length_range];omega)]
theorem AG {l:List Int} (h:gJ l) {a t pr i fl cr s d:Int} {o b:List Int} (e:Aw l=(a,t,pr,i,fl,cr,s,d,o,b,0)):
  l.take (iX l 2).toNat=uu a t pr i fl cr s d o b (iX l 10)++o++b /\ 20<=l.length /\ iX l 2=20+(o.length:Int)+(b.length:Int) /\ iX l 2<=(l.length:Int) /\ cU l=20+(o.length:Int) /\ sS l=65535:=by
 unfold Aw at e
 by_cases c1:l.length<20
 ·rw [aq c1] at e;simp at e
 rw [av c1] at e
 by_cases c2:Ik l
 ·rw [aq c2] at e;simp at e
 rw [av c2] at e
 by_cases c3:(l.length:Int)<iX l 2
 ·rw [aq c3] at e;simp at e
 rw [av c3] at e
 by_cases c4:sS l≠65535
 ·rw [aq c4] at e;simp at e
 rw [av c4] at e
 have c4':sS l=65535:=Decidable.not_not.1 c4
 have c5:l.getD 0 0 / 16=4 /\ cU l>=20 /\ iX l 2>=cU l:=by
  unfold Ik at c2
  exact Decidable.not_not.1 c2
 simp only [Prod.mk.injEq,and_true] at e
 obtain ⟨ea,et,ep,ei,ef,eo,es,ed,eop,eb⟩:=e;have hh:=lM l;have hg:=eU h 2
 have ho:(o.length:Int)=cU l - 20:=by
  rw [<- eop,List.length_drop,List.length_take]
  omega
 have hb:(b.length:Int)=iX l 2 - cU l:=by
  rw [<- eb,List.length_drop,List.length_take]
  omega
 refine ⟨?_,by omega,by omega,by omega,by omega,c4'⟩
 have t1:l.take (iX l 2).toNat=l.take (cU l).toNat++b:=by
  rw [<- eb]
  conv=>lhs;rw [<- List.take_append_drop (cU l).toNat (l.take (iX l 2).toNat)]
  rw [List.take_take,Nat.min_eq_left (by omega)]
 have t2:l.take (cU l).toNat=l.take 20++o:=by
  rw [<- eop]
  conv=>lhs;rw [<- List.take_append_drop 20 (l.take (cU l).toNat)]
  rw [List.take_take,Nat.min_eq_left (by omega)]
 rw [t1,t2,take_range l 20 (by omega)]
 congr 2
 have hx:∀ j,0<=l.getD j 0 /\ l.getD j 0<=255:=h.getD;unfold uu
 have u0:l.getD 0 0=64+(20+(o.length:Int)) / 4:=by
  have:=hx 0;have h1:cU l=4*(l.getD 0 0 % 16):=rfl
  omega
 have u2:l.getD 2 0=(20+(o.length:Int)+(b.length:Int)) / 256 % 256:=by
  have h1:iX l 2=l.getD 2 0*256+l.getD 3 0:=rfl;have:=hx 2;have:=hx 3
  omega
 have u3:l.getD 3 0=(20+(o.length:Int)+(b.length:Int)) % 256:=by
  have h1:iX l 2=l.getD 2 0*256+l.getD 3 0:=rfl;have:=hx 2;have:=hx 3
  omega
 have qJ:∀ j n,iX l j=n ->l.getD j 0=n / 256 % 256 /\ l.getD (j+1) 0=n % 256:=fun j n hn=>by
  have h1:iX l j=l.getD j 0*256+l.getD (j+1) 0:=rfl;have:=hx j;have:=hx (j+1)
  omega
 have w32:∀ j n,vU l j=n ->l.getD j 0=n / 16777216 % 256 /\ l.getD (j+1) 0=n / 65536 % 256 /\ l.getD (j+2) 0=n / 256 % 256 /\ l.getD (j+3) 0=n % 256:=fun j n hn=>by
  have h1:vU l j=(l.getD j 0*256+l.getD (j+1) 0)*65536+(l.getD (j+2) 0*256+l.getD (j+2+1) 0):=rfl;have:=hx j;have:=hx (j+1);have:=hx (j+2);have:=hx (j+3);have e3:l.getD (j+2+1) 0=l.getD (j+3) 0:=rfl
  omega
 have u4:=qJ 4 i ei;have u6:=qJ 6 (fl*8192+cr) (by have:=eU h 6;omega);have u10:=qJ 10 _ rfl;have u12:=w32 12 s es;have u16:=w32 16 d ed;have hr:(List.range 20).map (fun j=>l.getD j 0)=[l.getD 0 0,l.getD 1 0,l.getD 2 0,l.getD 3 0,l.getD 4 0,l.getD 5 0,l.getD 6 0,l.getD 7 0,l.getD 8 0,l.getD 9 0,l.getD 10 0,l.getD 11 0,l.getD 12 0,l.getD 13 0,l.getD 14 0,l.getD 15 0,l.getD 16 0,l.getD 17 0,l.getD 18 0,l.getD 19 0]:=rfl
 rw [hr,ea,et,ep,u0,u2,u3,u4.1,show l.getD 5 0=i % 256 from u4.2,u6.1,show l.getD 7 0=(fl*8192+cr) % 256 from u6.2,u10.1,show l.getD 11 0=iX l 10 % 256 from u10.2,u12.1,show l.getD 13 0=s / 65536 % 256 from u12.2.1,show l.getD 14 0=s / 256 % 256 from u12.2.2.1,show l.getD 15 0=s % 256 from u12.2.2.2,u16.1,show l.getD 17 0=d / 65536 % 256 from u16.2.1,show l.getD 18 0=d / 256 % 256 from u16.2.2.1,show l.getD 19 0=d % 256 from u16.2.2.2]
theorem AdT {l:List Int} (h:gJ l) (h20:20<=l.length) (hg:iX l 2<=(l.length:Int)):fQ.f l=some (l.take (iX l 2).toNat,cU l):=by
 have hr:=eU h 2;unfold fQ.f;rw [aq (by omega),xJ h 2 (by omega),bD,aq hr.1,aq hg,xH _ (by rw [List.length_take];omega),bD,aq (by omega),Av h]
theorem Oy (p xs:List Int) (j:Nat) (v:Int):(p++xs).set (p.length+j) v=p++xs.set j v:=by
 induction p with
 |nil=>simp
 |cons a p ih=>simp only [List.cons_append,List.length_cons,Nat.add_right_comm,List.set_cons_succ,ih]
theorem qz (p xs:List Int) (n j:Nat) (v:Int) (h:n=p.length+j):ig (p++xs) n v=p++ig xs j v:=by
 subst h;unfold ig;rw [Oy,Nat.add_assoc,Oy]
theorem EK (xs:List Int) (i j:Nat) (v:Int) (h:j<xs.length):(xs.set j v).getD i 0=if i=j then v else xs.getD i 0:=by
 rw [List.getD_eq_getElem?_getD,List.getElem?_set,List.getD_eq_getElem?_getD]
 by_cases e:j=i
 ·subst e;rw [aq rfl,aq h,aq rfl];rfl
 rw [av e,av (fun q=>e q.symm)]
theorem og {xs:List Int} (h:gJ xs) (j:Nat) (v:Int):gJ (ig xs j v):=(h.set j (by omega)).set (j+1) (by omega)
def Fp:List Int ->Nat ->List Int ->List Int
 |xs,_,[]=>xs
 |xs,q,n::ns=>Fp (ig xs q n) (q+2) ns
def Iv (mb:List Int) (x:Int) (h:Nat) (si sp di dp:Int):List Int:=Ci (mb.getD 9 0) (ig (Fp mb 12 (wI si di)) 10 x) 0 h sp dp
theorem AdU {si di:Int}:∀ n ∈ wI si di,qV n:=fun n hn=>by
 simp only [wI,List.mem_cons,List.not_mem_nil,or_false] at hn
 unfold qV
 omega
theorem KY (mb:List Int) (si di:Int):Fp mb 12 (wI si di)=ig (ig (ig (ig mb 12 (si / 65536 % 65536)) 14 (si % 65536)) 16 (di / 65536 % 65536)) 18 (di % 65536):=rfl
section
variable {mb:List Int} {x si sp di dp:Int} {h:Nat}
theorem EL:(Iv mb x h si sp di dp).length=mb.length:=by
 unfold Iv Ci
 split<;>simp only [pW,KY]
theorem Oz (hb:gJ mb):gJ (Iv mb x h si sp di dp):=by
 have h1:gJ (ig (Fp mb 12 (wI si di)) 10 x):=by
  rw [KY];exact og (og (og (og (og hb _ _) _ _) _ _) _ _) _ _
 unfold Iv Ci
 split
 ·exact og h1 _ _
 ·exact og (og h1 _ _) _ _
end
theorem Gb (a t pr i fl cr s d:Int) (o:List Int) {l l':List Int} (h:l.length=l'.length) (x:Int):uu a t pr i fl cr s d o l x=uu a t pr i fl cr s d o l' x:=by
 unfold uu;rw [h]
theorem Qd (a t pr i fl cr s d:Int) (o:List Int) {l l':List Int} (h:l.length=l'.length):Fm a t pr i fl cr s d o l=Fm a t pr i fl cr s d o l':=by
 unfold Fm;rw [Gb a t pr i fl cr s d o h]
section
end
end Go.Proofs.Ytkmimamminddiaa.Pure
namespace Go.Proofs.Ytkmimamminddiaa.PB
open Go.RowKit Go.Proofs.ah.bT Go.Proofs.ah.cY Go.Proofs.ah.iw
open Go.Proofs.Ytkmimamminddiaa.Spec Go.Proofs.Ytkmimamminddiaa.jJ Go.Proofs.Ytkmimamminddiaa.Pure
theorem oh {P:Program} {fn:Func} {p p2 u3 u4 u5:Tmp} {ty NG:TypeId} (h:fn.results= #[.cell p ty,.cell p2 NG,.tmp u3,.tmp u4,.tmp u5]) (tmps:Array Value) (w:World) (g g2:Nat) (t t2:TypeId) (cs Ln:Array Value) (fr YY:Nat×Nat) (d d2:TypeDesc)
  (hp:tmps.getD p undef= .pointer (some ⟨g,0,none⟩)) (hg:w.heap[g]?=some (.cells cs t fr)) (hu:P.underlying ty=some d) (hd:(match d with| .struct _| .array _ _=>true|_=>false)=true) (hi:(P.info? ty).map (·.size)=some cs.size)
  (SR:tmps.getD p2 undef= .pointer (some ⟨g2,0,none⟩)) (hg2:w.heap[g2]?=some (.cells Ln t2 YY)) (hu2:P.underlying NG=some d2) (hd2:(match d2 with| .struct _| .array _ _=>true|_=>false)=true) (hi2:(P.info? NG).map (·.size)=some Ln.size):
  (results fn tmps).run P w= .ok (.tuple #[.agg cs,.agg Ln,tmps.getD u3 undef,tmps.getD u4 undef,tmps.getD u5 undef]) w:=by
 have h1:tmps[p]?.getD undef= .pointer (some ⟨g,0,none⟩):=by simpa using hp
 have h2:tmps[p2]?.getD undef= .pointer (some ⟨g2,0,none⟩):=by simpa using SR
 simp [results,h,h1,h2,asAddr,run_loadVar_row w g t ty cs fr d hg hu hd hi,run_loadVar_row w g2 t2 NG Ln YY d2 hg2 hu2 hd2 hi2]
def nw (b:List Int):ng×ng×Int×Int×Bool:=match iL b with
 |none=>(⟨0,0⟩,⟨0,0⟩,0,0,false)
 |some h=>(⟨vU b 12,(sV b h.toNat).1⟩,⟨vU b 16,(sV b h.toNat).2⟩,b.getD 9 0,h,true)
theorem xK {b:List Int} (h:iL b=none):nw b=(⟨0,0⟩,⟨0,0⟩,0,0,false):=by unfold nw;rw [h]
theorem uK {b:List Int} {x:Int} (h:iL b=some x):nw b=(⟨vU b 12,(sV b x.toNat).1⟩,⟨vU b 16,(sV b x.toNat).2⟩,b.getD 9 0,x,true):=by unfold nw;rw [h]
section
variable {b:List Int}
theorem XE (h:b.length<20):iL b=none:=by unfold iL;rw [aq h]
theorem UQ (h:¬ b.length<20) (h2:¬ b.getD 0 0 / 16=4 \/ cU b<20 \/ (b.length:Int)<cU b+8):iL b=none:=by unfold iL;rw [av h,aq h2]
theorem Z5 (h2:b.getD 0 0 / 16=4) (h3:¬ cU b<20) (h4:¬ (b.length:Int)<cU b+8):¬ (¬ b.getD 0 0 / 16=4 \/ cU b<20 \/ (b.length:Int)<cU b+8):=fun h=>h.elim (fun x=>x h2) (fun h=>h.elim h3 h4)
theorem Ajz (h:¬ b.length<20) (h2:b.getD 0 0 / 16=4) (h3:¬ cU b<20) (h4:¬ (b.length:Int)<cU b+8) (h5:b.getD 9 0=17 \/ b.getD 9 0=6):iL b=some (cU b):=by unfold iL;rw [av h,av (Z5 h2 h3 h4),aq h5]
theorem UR (h:¬ b.length<20) (h2:b.getD 0 0 / 16=4) (h3:¬ cU b<20) (h4:¬ (b.length:Int)<cU b+8) (h5:b.getD 9 0=1) (h6:sU (b.getD (cU b).toNat 0) (b.getD ((cU b).toNat+1) 0)=true):iL b=some (cU b):=by
 unfold iL;rw [av h,av (Z5 h2 h3 h4),av (fun e=>by rw [h5] at e;exact absurd e (by decide)),aq h5,aq h6]
theorem Io (h:¬ b.length<20) (h1:¬ b.getD 9 0=17) (h2:¬ b.getD 9 0=6) (h6:sU (b.getD (cU b).toNat 0) (b.getD ((cU b).toNat+1) 0)=false):iL b=none:=by
 unfold iL;rw [av h]
 split
 ·rfl
 ·rw [av (show ¬ (b.getD 9 0=17 \/ b.getD 9 0=6) from fun e=>e.elim h1 h2)]
  by_cases h5:b.getD 9 0=1
  ·rw [aq h5,av (by rw [h6];decide)]
  rw [av h5]
theorem AjA (h:¬ b.length<20) (h1:¬ b.getD 9 0=17) (h2:¬ b.getD 9 0=6) (h3:¬ b.getD 9 0=1):iL b=none:=by
 unfold iL;rw [av h]
 split
 ·rfl
 ·rw [av (show ¬ (b.getD 9 0=17 \/ b.getD 9 0=6) from fun e=>e.elim h1 h2)]
end
section
variable {w:World} {A:Option Addr} {ad:Addr} {n:Nat} {b:List Int} {x:Int}
theorem cb {w0:World} (HC:aa (Kd.C (Kd.int .u8) w0 A n b)) (hB:aa (Below w0.heap.size w0 w)):aa (Kd.C (Kd.int .u8) w A n b):=⟨Kd.aW HC.out hB.out⟩
theorem OA (HC:aa (Kd.C (Kd.int .u8) w A b.length b)) (h:0<b.length):∃ ad,A=some ad:=by
 obtain ⟨ad,e,_⟩:=Kd.dG HC.out 0 (by omega) (by omega);exact ⟨ad,e⟩
theorem XF (HC:aa (Kd.C (Kd.int .u8) w (some ad) b.length b)) (i:Int) (j:Nat) (e:i=(j:Int)) (h:j<b.length) (E:aa (x=b.getD j 0)):w.cell? (ad.add i.toNat)=some (.int .u8 x):=by
 obtain ⟨ad_,e_,hx⟩:=Kd.dG HC.out i (by omega) (by omega);obtain rfl:=cN e_;rw [hx,gU b i j e,E.out]
theorem AjB (HC:aa (Kd.C (Kd.int .u8) w (some ad) b.length b)) (h:0<b.length) (E:aa (x=b.getD 0 0)):w.cell? ad=some (.int .u8 x):=by
 have h1:=XF HC 0 0 rfl h E
 rwa [show (0:Int).toNat=0 from rfl,Addr.add_zero'] at h1
end
def wu.R3.T:Bool×List (List Nat×List Nat):=(true,[([],[]),([],[]),([0,0],[0]),([1,2,0,1,2],[1]),([3,0,1,2,3],[]),([4,0,1,2,3,4],[]),([5,0,1,2,3,4,5],[])])
theorem wu.R3.tab:gB .any (opsOf Try.f91 3)=wu.R3.T:=by kernel_rfl
theorem wu.R3.bits:cS wu.R3.T.2 [0,0,1,7,15,31,63]=true:=by kernel_rfl
def wu.R6.T:Bool×List (List Nat×List Nat):=(true,[([],[]),([],[]),([0,0],[0]),([1,2,0,1,2],[1]),([3,0,1,2,3],[]),([4,0,1,2,3,4],[]),([5,0,1,2,3,4,5],[])])
theorem wu.R6.tab:gB .any (opsOf Try.f91 6)=wu.R6.T:=by kernel_rfl
theorem wu.R6.bits:cS wu.R6.T.2 [0,0,1,7,15,31,63]=true:=by kernel_rfl
def wu.Z6.T:Bool×List (List Nat×List Nat):=(true,[([],[]),([],[]),([],[]),([],[]),([0,0],[0]),([1,4,0,1,4],[1]),([2,5,0,1,2,4,5],[2]),([3,6,0,1,2,3,4,5,6],[3]),([7,0,1,2,3,4,5,6,7],[])])
theorem wu.Z6.tab:gB .any (opsOf Try.f91 19)=wu.Z6.T:=by kernel_rfl
theorem wu.Z6.bits:cS wu.Z6.T.2 [0,0,0,0,1,19,55,127,255]=true:=by kernel_rfl
def wu.SX.T:Bool×List (List Nat×List Nat):=(true,[([],[]),([],[]),([0,0],[0]),([1,2,0,1,2],[1]),([3,0,1,2,3],[]),([4,0,1,2,3,4],[]),([5,0,1,2,3,4,5],[])])
theorem wu.SX.tab:gB .any (opsOf Try.f91 10)=wu.SX.T:=by kernel_rfl
theorem wu.SX.bits:cS wu.SX.T.2 [0,0,1,7,15,31,63]=true:=by kernel_rfl
def wu.Ce.T:Bool×List (List Nat×List Nat):=(true,[([],[]),([],[]),([0,0],[0]),([1,2,0,1,2],[1]),([3,0,1,2,3],[]),([4,0,1,2,3,4],[]),([5,0,1,2,3,4,5],[])])
theorem wu.Ce.tab:gB .any (opsOf Try.f91 16)=wu.Ce.T:=by kernel_rfl
theorem wu.Ce.bits:cS wu.Ce.T.2 [0,0,1,7,15,31,63]=true:=by kernel_rfl
theorem wu.calls (A:Option Addr) (c:Nat) (b:List Int) (w:World) (hB:gJ b) (hn:b.length<=100000) (hC:Kd.C (Kd.int .u8) w A b.length b) (hL:b.length<=c):
  Calls Try.prog 91 #[.slice A b.length c] w fun e w'=>e= .returned (.tuple #[.agg #[.int .u32 (nw b).1.f0,.int .u16 (nw b).1.f1],.agg #[.int .u32 (nw b).2.1.f0,.int .u16 (nw b).2.1.f1],.int .u8 (nw b).2.2.1,.int .i64 (nw b).2.2.2.1,.bool (nw b).2.2.2.2]) /\ Below w.heap.size w w':=by
 have mM:=Try.underlying65;have HB:=gI w;have iM:aa ((Try.prog.info? 65).map (·.size)=some 2):=⟨by kernel_rfl⟩
 have HC:=aa.mk hC;have HL:=aa.mk hL;have Z7:=aa.mk hB;have HN:=aa.mk hn;have hr:=lM b;obtain ⟨x0,e0⟩:∃ x,x=b.getD 0 0:=⟨_,rfl⟩
 have E0:=aa.mk e0;obtain ⟨x9,e9⟩:∃ x,x=b.getD 9 0:=⟨_,rfl⟩
 have E9:=aa.mk e9;obtain ⟨hd,eh⟩:∃ x,x=cU b:=⟨_,rfl⟩
 have EH:=aa.mk eh;obtain ⟨y0,et⟩:∃ x,x=b.getD hd.toNat 0:=⟨_,rfl⟩
 have ET:=aa.mk et;obtain ⟨y1,ec⟩:∃ x,x=b.getD (hd.toNat+1) 0:=⟨_,rfl⟩
 have EC:=aa.mk ec;obtain ⟨h8,e8⟩:∃ x,x=hd+8:=⟨_,rfl⟩
 have E8:=aa.mk e8;obtain ⟨h1,e1⟩:∃ x,x=hd+1:=⟨_,rfl⟩
 have E1:=aa.mk e1;obtain ⟨h2,e2⟩:∃ x,x=hd+2:=⟨_,rfl⟩
 have E2:=aa.mk e2;obtain ⟨h4,e4⟩:∃ x,x=hd+4:=⟨_,rfl⟩
 have E4:=aa.mk e4;have E1w:aa (wrap64 (hd+1)=h1):=⟨by rw [bZ (by omega) (by omega)];exact e1.symm⟩
 have w1_:wrap64 (hd+1)=h1:=by rw [bZ (by omega) (by omega)];exact e1.symm
 have w2_:wrap64 (hd+2)=h2:=by rw [bZ (by omega) (by omega)];exact e2.symm
 have w4_:wrap64 (hd+4)=h4:=by rw [bZ (by omega) (by omega)];exact e4.symm
 have w8_:wrap64 (hd+8)=h8:=by rw [bZ (by omega) (by omega)];exact e8.symm
 have wh_:wrap64 ((wrap64 (Go.bits .and .u8 x0 15))*4)=hd:=by
  have h:=F6 hB;rw [gU b 0 0 rfl,<- e0] at h
  exact h.trans eh.symm
 clear hC hL hB hn hr e0 e9 eh et ec e8 e1 e2 e4
 go_enter Try.func91,Try.ntmps91
 go_upto_region 2 with (first|((with_reducible refine aA (N:=2) rfl ?_);refine aC ?fT (N:=2) ?iB (cs:= #[.int .u32 0,.int .u16 0]) (t:=65) ?eY ?_;(case iB=>rfl);(case fT=>rfl);(case eY=>first|(go_simp;done)|(go_simp;rfl));intro ga bV w1 bw cB;have Qe:=aa.mk (show w.heap.size<=ga by rw [bV];exact af HB.out);have lT:=aa.mk bw;have ai:=cB;replace HB:=mB HB ai;clear ai;clear bV bw cB)|((with_reducible refine aA (N:=3) rfl ?_);refine aC ?fT (N:=3) ?iB (cs:= #[.int .u32 0,.int .u16 0]) (t:=65) ?eY ?_;(case iB=>rfl);(case fT=>rfl);(case eY=>first|(go_simp;done)|(go_simp;rfl));intro gb bV w2 bw cB;have Qf:=aa.mk (show w.heap.size<=gb by rw [bV];exact af HB.out);have lY:=aa.mk bw;have j6:aa (ga≠gb):=⟨by rw [bV];exact (cW lT).out⟩;have ai:=cB;replace HB:=mB HB ai;replace lT:=mX lT ai;clear ai;clear bV bw cB)|((with_reducible refine aA (N:=7) rfl ?_);refine aC ?fT (N:=7) ?iB (cs:= #[.int .u32 0,.int .u16 0]) (t:=65) ?eY ?_;(case iB=>rfl);(case fT=>rfl);(case eY=>first|(go_simp;done)|(go_simp;rfl));intro gn bV w3 bw cB;have Cf:=aa.mk (show w.heap.size<=gn by rw [bV];exact af HB.out);have cX:=aa.mk bw;have qA:aa (ga≠gn):=⟨by rw [bV];exact (cW lT).out⟩;have qB:aa (gb≠gn):=⟨by rw [bV];exact (cW lY).out⟩;have ai:=cB;replace HB:=mB HB ai;replace lT:=mX lT ai;replace lY:=mX lY ai;clear ai;clear bV bw cB))
 have h3:(b.length<20 \/ ¬ b.length<20 /\ ¬ x0 / 16=4) \/ (¬ b.length<20 /\ x0 / 16=4):=by omega
 rcases h3 with h3|⟨c1,c2⟩
 ·rcases h3 with c1|⟨c1,c2⟩
  all_goals first
   |(have HW:=aa.mk (XE c1);have d1:decide ((b.length:Int)<20)=true:=bN (by omega);have d2:decide (b.length<20)=true:=bN (by omega);clear c1;go_upto_region 3 with (fail))
   |(have HW:=aa.mk (UQ c1 (.inl (E0.out ▸ c2)));have d1:decide ((b.length:Int)<20)=false:=gN (by omega);have d2:decide (b.length<20)=false:=gN (by omega);obtain ⟨ad,hA⟩:=OA HC (by omega);subst hA;have x0_:=AjB (cb HC HB) (by omega) E0;have q0:(0<b.length)=True:=eq_true (by omega);have q0_:((0:Int)<(b.length:Int))=True:=eq_true (by omega);have e1:(x0 / 16==4)=false:=fq c2;have e2:(x0 / 16 !=4)=true:=bne_iff_ne.2 c2;clear c1 c2;go_upto_region 3 with (fail))
  all_goals
   (try dsimp only)
   go_upto_region 3 with (fail)
   refine dB (n:=7) (S:=fun w'=>w'.heap[gn]?=some (.cells #[.int .u32 0,.int .u16 0] 65 (0,0))) (ds:=[]) #[false,false,false,false,false,false,false] (by kernel_rfl) rfl rfl cX.out (fun hHeld=> ?_);refine bF wu.R3.tab wu.R3.bits (fun ax eu=> ?_);have ai:=bf (Below.refl w3.heap.size w3);replace HB:=mB HB ai;replace lT:=mX lT ai;replace lY:=mX lY ai;replace cX:=mX cX ai;clear ai;generalize w3.drew=w4 at HB lT lY cX hHeld|-
   refine tv 0 22 (.agg #[.int .u32 0,.int .u16 0]) ax eu hHeld ?_ ?_
   ·intro w' s0
    exact bM (p:= .tmp 7) (ty:=65) (by rfl) (by rfl) s0 mM (by rfl) iM.out
   refine nz 22 ?_;refine tv 1 23 (.agg #[.int .u32 0,.int .u16 0]) ax eu hHeld ?_ ?_
   ·intro w' s0
    exact bM (p:= .tmp 7) (ty:=65) (by rfl) (by rfl) s0 mM (by rfl) iM.out
   refine nz 23 ?_;refine oz 2 (none) ax (fun K hK=> ?_);refine cZ (by rfl) (by rfl) rfl rfl rfl lT.out iM.out rfl (by simp [Value.oneCell']) ?_;intro w5 hs_ ag;replace lY:=oN ag lY (cg j6);replace cX:=oN ag cX (cg qA);replace HB:=oB ag HB Qe;clear ag;replace lT:=aa.mk hs_;clear hs_;refine hK.out _ _ cX.out (fun hHeld=> ?_);clear hK K;refine oz 3 (none) ax (fun K hK=> ?_);refine cZ (by rfl) (by rfl) rfl rfl rfl lY.out iM.out rfl (by simp [Value.oneCell']) ?_;intro w6 hs_ ag;replace lT:=oN ag lT j6;replace cX:=oN ag cX (cg qB);replace HB:=oB ag HB Qf;clear ag;replace lY:=aa.mk hs_;clear hs_;refine hK.out _ _ cX.out (fun hHeld=> ?_);clear hK K;refine pz 4 4 ax ?_;refine pz 5 5 ax ?_;refine pz 6 6 ax ?_;refine dz ax ?_
   clear ax eu hHeld
   (try dsimp only)
   go_wp2
   (try simp only [Exit.inBlock,Exit.then])
   refine bodyPost_ret (oh rfl _ _ _ _ _ _ _ _ (0,0) (0,0) _ _ rfl lT.out mM rfl iM.out rfl lY.out mM rfl iM.out) rfl ?_;exact ⟨by rw [xK (HW.out)];rfl,HB.out⟩
 ·have MN:=aa.mk c1
  have Kc2:=aa.mk c2;have d1:decide ((b.length:Int)<20)=false:=gN (by omega);have d2:decide (b.length<20)=false:=gN (by omega);obtain ⟨ad,hA⟩:=OA HC (by omega);subst hA;have x0_:=AjB (cb HC HB) (by omega) E0;have q0:(0<b.length)=True:=eq_true (by omega);have q0_:((0:Int)<(b.length:Int))=True:=eq_true (by omega);have e1:(x0 / 16==4)=true:=fF c2;have e2:(x0 / 16 !=4)=false:=bne_eq_false_iff_eq.2 c2;clear c1 c2
  go_upto_region 5 with (fail)
  clear e1 e2 d1 d2 x0_;have h3:(hd<20 \/ ¬ hd<20 /\ (b.length:Int)<h8) \/ (¬ hd<20 /\ ¬ (b.length:Int)<h8):=by omega
  rcases h3 with h3|⟨c3,c4⟩
  ·rcases h3 with c3|⟨c3,c4⟩
   all_goals first
    |(have HW:=aa.mk (UQ MN.out (.inr (.inl (EH.out ▸ c3))));have d3:decide (hd<20)=true:=bN c3;clear c3;go_upto_region 6 with (fail))
    |(have HW:=aa.mk (UQ MN.out (.inr (.inr (EH.out ▸ E8.out ▸ c4))));have d3:decide (hd<20)=false:=gN c3;have d4:decide ((b.length:Int)<h8)=true:=bN (by omega);clear c3 c4;go_upto_region 6 with (fail))
   all_goals
    (try dsimp only)
    go_upto_region 6 with (fail)
    refine dB (n:=7) (S:=fun w'=>w'.heap[gn]?=some (.cells #[.int .u32 0,.int .u16 0] 65 (0,0))) (ds:=[]) #[false,false,false,false,false,false,false] (by kernel_rfl) rfl rfl cX.out (fun hHeld=> ?_);refine bF wu.R6.tab wu.R6.bits (fun ax eu=> ?_);have ai:=bf (Below.refl w3.heap.size w3);replace HB:=mB HB ai;replace lT:=mX lT ai;replace lY:=mX lY ai;replace cX:=mX cX ai;clear ai;generalize w3.drew=w4 at HB lT lY cX hHeld|-
    refine tv 0 39 (.agg #[.int .u32 0,.int .u16 0]) ax eu hHeld ?_ ?_
    ·intro w' s0
     exact bM (p:= .tmp 7) (ty:=65) (by rfl) (by rfl) s0 mM (by rfl) iM.out
    refine nz 39 ?_;refine tv 1 40 (.agg #[.int .u32 0,.int .u16 0]) ax eu hHeld ?_ ?_
    ·intro w' s0
     exact bM (p:= .tmp 7) (ty:=65) (by rfl) (by rfl) s0 mM (by rfl) iM.out
    refine nz 40 ?_;refine oz 2 (none) ax (fun K hK=> ?_);refine cZ (by rfl) (by rfl) rfl rfl rfl lT.out iM.out rfl (by simp [Value.oneCell']) ?_;intro w5 hs_ ag;replace lY:=oN ag lY (cg j6);replace cX:=oN ag cX (cg qA);replace HB:=oB ag HB Qe;clear ag;replace lT:=aa.mk hs_;clear hs_;refine hK.out _ _ cX.out (fun hHeld=> ?_);clear hK K;refine oz 3 (none) ax (fun K hK=> ?_);refine cZ (by rfl) (by rfl) rfl rfl rfl lY.out iM.out rfl (by simp [Value.oneCell']) ?_;intro w6 hs_ ag;replace lT:=oN ag lT j6;replace cX:=oN ag cX (cg qB);replace HB:=oB ag HB Qf;clear ag;replace lY:=aa.mk hs_;clear hs_;refine hK.out _ _ cX.out (fun hHeld=> ?_);clear hK K;refine pz 4 4 ax ?_;refine pz 5 5 ax ?_;refine pz 6 6 ax ?_;refine dz ax ?_
    clear ax eu hHeld
    (try dsimp only)
    go_wp2
    (try simp only [Exit.inBlock,Exit.then])
    refine bodyPost_ret (oh rfl _ _ _ _ _ _ _ _ (0,0) (0,0) _ _ rfl lT.out mM rfl iM.out rfl lY.out mM rfl iM.out) rfl ?_;exact ⟨by rw [xK (HW.out)];rfl,HB.out⟩
  ·have Kc3:=aa.mk c3
   have Kc4:=aa.mk c4;have d3:decide (hd<20)=false:=gN c3;have d4:decide ((b.length:Int)<h8)=false:=gN (by omega);clear c3 c4;have HG:=aa.mk (show (0:Int)<=hd /\ hd+8<=(b.length:Int) /\ hd=cU b from ⟨by have:=Kc3.out;omega,by have h1:=Kc4.out;rw [E8.out] at h1;omega,EH.out⟩);clear q0 q0_
   go_wp2_with fail
   refine (dN.calls _ _ b 12 (vU b 12) _ (cb HC HB).out HL.out (qQ Z7.out 12 (by have:=MN.out;omega) (by have:=HN.out;omega))).mono ?_;rintro ev w_ ⟨rfl,⟨nd,rfl⟩⟩;have ai:=dS (Below.refl w3.heap.size w3) nd;replace HB:=mB HB ai;replace lT:=mX lT ai;replace lY:=mX lY ai;replace cX:=mX cX ai;clear ai;generalize w3.drewN nd=w4 at HB lT lY cX|-
   (try dsimp only)
   go_wp2_with fail
   refine (dN.calls _ _ b 16 (vU b 16) _ (cb HC HB).out HL.out (qQ Z7.out 16 (by have:=MN.out;omega) (by have:=HN.out;omega))).mono ?_;rintro ev w_ ⟨rfl,⟨nd,rfl⟩⟩;have ai:=dS (Below.refl w4.heap.size w4) nd;replace HB:=mB HB ai;replace lT:=mX lT ai;replace lY:=mX lY ai;replace cX:=mX cX ai;clear ai;generalize w4.drewN nd=w5 at HB lT lY cX|-
   (try dsimp only)
   go_upto_region 8 with (first|((with_reducible refine aA (N:=9) rfl ?_);refine aC ?fT (N:=9) ?iB (cs:= #[.int .u32 0,.int .u16 0]) (t:=65) ?eY ?_;(case iB=>rfl);(case fT=>rfl);(case eY=>first|(go_simp;done)|(go_simp;rfl));intro gs bV w6 bw cB;have G2:=aa.mk (show w.heap.size<=gs by rw [bV];exact af HB.out);have cT:=aa.mk bw;have oQ:aa (ga≠gs):=⟨by rw [bV];exact (cW lT).out⟩;have oS:aa (gb≠gs):=⟨by rw [bV];exact (cW lY).out⟩;have zy:aa (gn≠gs):=⟨by rw [bV];exact (cW cX).out⟩;have ai:=cB;replace HB:=mB HB ai;replace lT:=mX lT ai;replace lY:=mX lY ai;replace cX:=mX cX ai;clear ai;clear bV bw cB)|((with_reducible refine aA (N:=10) rfl ?_);refine aC ?fT (N:=10) ?iB (cs:= #[.int .u32 0,.int .u16 0]) (t:=65) ?eY ?_;(case iB=>rfl);(case fT=>rfl);(case eY=>first|(go_simp;done)|(go_simp;rfl));intro gd bV w7 bw cB;have Fb:=aa.mk (show w.heap.size<=gd by rw [bV];exact af HB.out);have cL:=aa.mk bw;have oT:aa (ga≠gd):=⟨by rw [bV];exact (cW lT).out⟩;have oU:aa (gb≠gd):=⟨by rw [bV];exact (cW lY).out⟩;have zz:aa (gn≠gd):=⟨by rw [bV];exact (cW cX).out⟩;have jA:aa (gs≠gd):=⟨by rw [bV];exact (cW cT).out⟩;have ai:=cB;replace HB:=mB HB ai;replace lT:=mX lT ai;replace lY:=mX lY ai;replace cX:=mX cX ai;replace cT:=mX cT ai;clear ai;clear bV bw cB)|((refine dh rfl rfl rfl rfl rfl cT.out iM.out rfl (by simp [Value.oneCell']) ?_);intro w8 hs_ ag;replace lT:=oN ag lT oQ;replace lY:=oN ag lY oS;replace cX:=oN ag cX zy;replace cL:=oN ag cL (cg jA);replace HB:=oB ag HB G2;clear ag;replace cT:=aa.mk hs_;clear hs_)|((refine dh rfl rfl rfl rfl rfl cL.out iM.out rfl (by simp [Value.oneCell']) ?_);intro w9 hs_ ag;replace lT:=oN ag lT oT;replace lY:=oN ag lY oU;replace cX:=oN ag cX zz;replace cT:=oN ag cT jA;replace HB:=oB ag HB Fb;clear ag;replace cL:=aa.mk hs_;clear hs_))
   have x9_:=XF (cb HC HB) 9 9 rfl (by have:=MN.out;omega) E9;simp only [show (9:Int).toNat=9 from rfl,Nat.reduceMul,Nat.reduceEqDiff,Go.Addr.add,↓reduceIte] at x9_
   have q9:(9<b.length)=True:=eq_true (by have:=MN.out;omega);have q9_:((9:Int)<(b.length:Int))=True:=eq_true (by have:=MN.out;omega);have h3:(x9=17 \/ ¬ x9=17 /\ x9=6) \/ (¬ x9=17 /\ ¬ x9=6):=by omega
   rcases h3 with h3|⟨Vf,p6⟩
   ·rcases h3 with Vf|⟨Vf,p6⟩
    all_goals first
     |(have HW:=aa.mk (Ajz MN.out (E0.out ▸ Kc2.out) (by have h1:=Kc3.out;have h2:=EH.out;omega) (by have h1:=Kc4.out;have h2:=EH.out;have h3:=E8.out;omega) (.inl (E9.out ▸ Vf)));have HNE:aa (¬ x9=1):=⟨by omega⟩;have e0:(x9==17)=true:=fF Vf;clear Vf;go_upto_region 13 with (fail);clear e0 x9_ q9 q9_)
     |(have HW:=aa.mk (Ajz MN.out (E0.out ▸ Kc2.out) (by have h1:=Kc3.out;have h2:=EH.out;omega) (by have h1:=Kc4.out;have h2:=EH.out;have h3:=E8.out;omega) (.inr (E9.out ▸ p6)));have HNE:aa (¬ x9=1):=⟨by omega⟩;have e0:(x9==17)=false:=fq Vf;have e6:(x9==6)=true:=fF p6;clear Vf p6;go_upto_region 13 with (fail);clear e0 e6 x9_ q9 q9_)
    all_goals
     go_wp2_with fail
     refine (aT.calls _ _ b hd (iX b hd.toNat) _ (cb HC HB).out HL.out (by have h:=iP Z7.out hd.toNat (by have:=HG.out;omega) (by have:=HN.out;omega);rwa [Int.toNat_of_nonneg HG.out.1] at h)).mono ?_;rintro ev w_ ⟨rfl,⟨nd,rfl⟩⟩;have ai:=dS (Below.refl w9.heap.size w9) nd;replace HB:=mB HB ai;replace lT:=mX lT ai;replace lY:=mX lY ai;replace cX:=mX cX ai;replace cT:=mX cT ai;replace cL:=mX cL ai;clear ai;generalize w9.drewN nd=ku at HB lT lY cX cT cL|-
     (try dsimp only)
     go_wp2_with fail
     refine (aT.calls _ _ b h2 (iX b (hd.toNat+2)) _ (cb HC HB).out HL.out (by have h:=iP Z7.out (hd.toNat+2) (by have:=HG.out;omega) (by have:=HN.out;omega);rwa [show ((hd.toNat+2:Nat):Int)=h2 by have:=HG.out;have:=E2.out;omega] at h)).mono ?_;rintro ev w_ ⟨rfl,⟨nd,rfl⟩⟩;have ai:=dS (Below.refl ku.heap.size ku) nd;replace HB:=mB HB ai;replace lT:=mX lT ai;replace lY:=mX lY ai;replace cX:=mX cX ai;replace cT:=mX cT ai;replace cL:=mX cL ai;clear ai;generalize ku.drewN nd=sn at HB lT lY cX cT cL|-
     (try dsimp only)
     go_upto_region 19 with (first|((refine jO rfl rfl (i:=1) (v:= .int .u16 (iX b hd.toNat)) (cs':= #[.int .u32 (vU b 12),.int .u16 (iX b hd.toNat)]) cT.out rfl ?eY ?_);(case eY=>(have m_:=(aN cT.out 1).trans (rfl:_=some (.int .u16 0:Value)));(have pU:=ae cT.out 1);first|(go_simp;done)|(go_simp;rfl));intro nP hs_ ag;replace lT:=oN ag lT oQ;replace lY:=oN ag lY oS;replace cX:=oN ag cX zy;replace cL:=oN ag cL (cg jA);replace HB:=oB ag HB G2;clear ag;replace cT:=aa.mk hs_;clear hs_)|((refine jO rfl rfl (i:=1) (v:= .int .u16 (iX b (hd.toNat+2))) (cs':= #[.int .u32 (vU b 16),.int .u16 (iX b (hd.toNat+2))]) cL.out rfl ?eY ?_);(case eY=>(have m_:=(aN cL.out 1).trans (rfl:_=some (.int .u16 0:Value)));(have pU:=ae cL.out 1);first|(go_simp;done)|(go_simp;rfl));intro yD hs_ ag;replace lT:=oN ag lT oT;replace lY:=oN ag lY oU;replace cX:=oN ag cX zz;replace cT:=oN ag cT jA;replace HB:=oB ag HB Fb;clear ag;replace cL:=aa.mk hs_;clear hs_))
     refine dB (n:=9) (S:=fun w'=>w'.heap[gs]?=some (.cells #[.int .u32 (vU b 12),.int .u16 (iX b hd.toNat)] 65 (0,0)) /\ w'.heap[gd]?=some (.cells #[.int .u32 (vU b 16),.int .u16 (iX b (hd.toNat+2))] 65 (0,0))) (ds:=[]) #[false,false,false,false,false,false,false,false,false] (by kernel_rfl) rfl rfl ⟨cT.out,cL.out⟩ (fun hHeld=> ?_);refine bF wu.Z6.tab wu.Z6.bits (fun ax eu=> ?_);have ai:=bf (Below.refl yD.heap.size yD);replace HB:=mB HB ai;replace lT:=mX lT ai;replace lY:=mX lY ai;replace cX:=mX cX ai;replace cT:=mX cT ai;replace cL:=mX cL ai;clear ai;generalize yD.drew=qY at HB lT lY cX cT cL hHeld|-
     refine pz 2 99 ax ?_;refine pz 3 100 ax ?_;refine tv 0 97 (.agg #[.int .u32 (vU b 12),.int .u16 (iX b hd.toNat)]) ax eu hHeld ?_ ?_
     ·intro w' s0
      obtain ⟨s0,s1⟩:=s0;exact bM (p:= .tmp 9) (ty:=65) (by rfl) (by rfl) s0 mM (by rfl) iM.out
     refine nz 97 ?_;refine tv 1 98 (.agg #[.int .u32 (vU b 16),.int .u16 (iX b (hd.toNat+2))]) ax eu hHeld ?_ ?_
     ·intro w' s0
      obtain ⟨s0,s1⟩:=s0;exact bM (p:= .tmp 10) (ty:=65) (by rfl) (by rfl) s1 mM (by rfl) iM.out
     refine nz 98 ?_;refine oz 4 (none) ax (fun K hK=> ?_);refine cZ (by rfl) (by rfl) rfl rfl rfl lT.out iM.out rfl (by simp [Value.oneCell']) ?_;intro BX hs_ ag;replace lY:=oN ag lY (cg j6);replace cX:=oN ag cX (cg qA);replace cT:=oN ag cT (cg oQ);replace cL:=oN ag cL (cg oT);replace HB:=oB ag HB Qe;clear ag;replace lT:=aa.mk hs_;clear hs_;refine hK.out _ _ ⟨cT.out,cL.out⟩ (fun hHeld=> ?_);clear hK K;refine oz 5 (none) ax (fun K hK=> ?_);refine cZ (by rfl) (by rfl) rfl rfl rfl lY.out iM.out rfl (by simp [Value.oneCell']) ?_;intro qJ hs_ ag;replace lT:=oN ag lT j6;replace cX:=oN ag cX (cg qB);replace cT:=oN ag cT (cg oS);replace cL:=oN ag cL (cg oU);replace HB:=oB ag HB Qf
     clear ag;replace lY:=aa.mk hs_;clear hs_;refine hK.out _ _ ⟨cT.out,cL.out⟩ (fun hHeld=> ?_);clear hK K;refine pz 6 4 ax ?_;refine pz 7 5 ax ?_;refine pz 8 6 ax ?_;refine dz ax ?_;clear ax eu hHeld
     (try dsimp only)
     go_wp2
     (try simp only [Exit.inBlock,Exit.then])
     refine bodyPost_ret (oh rfl _ _ _ _ _ _ _ _ (0,0) (0,0) _ _ rfl lT.out mM rfl iM.out rfl lY.out mM rfl iM.out) rfl ?_;exact ⟨by rw [uK (HW.out),<- EH.out,<- E9.out];unfold sV;rw [av (fun e_=>HNE.out (E9.out.trans e_))];rfl,HB.out⟩
   ·have XG:=aa.mk Vf
    have Kp6:=aa.mk p6;have e0:(x9==17)=false:=fq Vf;have e6:(x9==6)=false:=fq p6;clear Vf p6
    by_cases p1:x9=1
    rotate_left
    ·have HW:=aa.mk (AjA MN.out (E9.out ▸ XG.out) (E9.out ▸ Kp6.out) (E9.out ▸ p1))
     have e1:(x9==1)=false:=fq p1;clear p1
     (try dsimp only)
     go_upto_region 10 with (fail)
     refine dB (n:=7) (S:=fun w'=>w'.heap[gn]?=some (.cells #[.int .u32 0,.int .u16 0] 65 (0,0))) (ds:=[]) #[false,false,false,false,false,false,false] (by kernel_rfl) rfl rfl cX.out (fun hHeld=> ?_);refine bF wu.SX.tab wu.SX.bits (fun ax eu=> ?_);have ai:=bf (Below.refl w9.heap.size w9);replace HB:=mB HB ai;replace lT:=mX lT ai;replace lY:=mX lY ai;replace cX:=mX cX ai;replace cT:=mX cT ai;replace cL:=mX cL ai;clear ai;generalize w9.drew=ku at HB lT lY cX cT cL hHeld|-
     refine tv 0 51 (.agg #[.int .u32 0,.int .u16 0]) ax eu hHeld ?_ ?_
     ·intro w' s0
      exact bM (p:= .tmp 7) (ty:=65) (by rfl) (by rfl) s0 mM (by rfl) iM.out
     refine nz 51 ?_;refine tv 1 52 (.agg #[.int .u32 0,.int .u16 0]) ax eu hHeld ?_ ?_
     ·intro w' s0
      exact bM (p:= .tmp 7) (ty:=65) (by rfl) (by rfl) s0 mM (by rfl) iM.out
     refine nz 52 ?_;refine oz 2 (none) ax (fun K hK=> ?_);refine cZ (by rfl) (by rfl) rfl rfl rfl lT.out iM.out rfl (by simp [Value.oneCell']) ?_;intro sn hs_ ag;replace lY:=oN ag lY (cg j6);replace cX:=oN ag cX (cg qA);replace cT:=oN ag cT (cg oQ);replace cL:=oN ag cL (cg oT);replace HB:=oB ag HB Qe;clear ag;replace lT:=aa.mk hs_;clear hs_;refine hK.out _ _ cX.out (fun hHeld=> ?_);clear hK K;refine oz 3 (none) ax (fun K hK=> ?_);refine cZ (by rfl) (by rfl) rfl rfl rfl lY.out iM.out rfl (by simp [Value.oneCell']) ?_;intro nP hs_ ag;replace lT:=oN ag lT j6;replace cX:=oN ag cX (cg qB);replace cT:=oN ag cT (cg oS);replace cL:=oN ag cL (cg oU);replace HB:=oB ag HB Qf;clear ag
     replace lY:=aa.mk hs_;clear hs_;refine hK.out _ _ cX.out (fun hHeld=> ?_);clear hK K;refine pz 4 4 ax ?_;refine pz 5 5 ax ?_;refine pz 6 6 ax ?_;refine dz ax ?_;clear ax eu hHeld
     (try dsimp only)
     go_wp2
     (try simp only [Exit.inBlock,Exit.then])
     refine bodyPost_ret (oh rfl _ _ _ _ _ _ _ _ (0,0) (0,0) _ _ rfl lT.out mM rfl iM.out rfl lY.out mM rfl iM.out) rfl ?_;exact ⟨by rw [xK (HW.out)];rfl,HB.out⟩
    have Kp1:=aa.mk p1
    have e1:(x9==1)=true:=fF p1;clear p1
    (try dsimp only)
    go_upto_region 15 with (fail)
    clear x9_ q9 q9_ e0 e1 e6;have y0_:=XF (cb HC HB) hd hd.toNat (Int.toNat_of_nonneg HG.out.1).symm (by have:=HG.out;omega) ET;have y1_:=XF (cb HC HB) h1 (hd.toNat+1) (by have:=HG.out;have:=E1.out;omega) (by have:=HG.out;omega) EC;have q1:(0<=hd)=True:=eq_true HG.out.1;have q2:(hd<(b.length:Int))=True:=eq_true (by have:=HG.out;omega);have q3:(0<=h1)=True:=eq_true (by have:=HG.out;have:=E1.out;omega);have q4:(h1<(b.length:Int))=True:=eq_true (by have:=HG.out;have:=E1.out;omega);have hh1:=E1w.out;have h3:((¬ y0=8 /\ ¬ y0=0) \/ (y0=8 /\ ¬ y1=0) \/ (¬ y0=8 /\ y0=0 /\ ¬ y1=0)) \/ ((y0=8 /\ y1=0) \/ (¬ y0=8 /\ y0=0 /\ y1=0)):=by omega
    rcases h3 with h3|h4_
    ·rcases h3 with ⟨s8,s0⟩|⟨s8,s1⟩|⟨s8,s0,s1⟩
     all_goals first
      |(have HW:=aa.mk (Io MN.out (E9.out ▸ XG.out) (E9.out ▸ Kp6.out) (by rw [<- EH.out,<- ET.out,<- EC.out];unfold sU;rw [fq s8,fq s0];rfl));have t8:(y0==8)=false:=fq s8;have t8n:(y0 !=8)=true:=(by rw [bne,t8];rfl);have t0:(y0==0)=false:=fq s0;have t0n:(y0 !=0)=true:=(by rw [bne,t0];rfl);clear s8 s0;(try dsimp only);go_upto_region 16 with (fail))
      |(have HW:=aa.mk (Io MN.out (E9.out ▸ XG.out) (E9.out ▸ Kp6.out) (by rw [<- EH.out,<- ET.out,<- EC.out];unfold sU;rw [fq s1,Bool.and_false]));have t8:(y0==8)=true:=fF s8;have t8n:(y0 !=8)=false:=(by rw [bne,t8];rfl);have u0:(y1==0)=false:=fq s1;have u0n:(y1 !=0)=true:=(by rw [bne,u0];rfl);clear s8 s1;(try dsimp only);go_upto_region 16 with (fail))
      |(have HW:=aa.mk (Io MN.out (E9.out ▸ XG.out) (E9.out ▸ Kp6.out) (by rw [<- EH.out,<- ET.out,<- EC.out];unfold sU;rw [fq s1,Bool.and_false]));have t8:(y0==8)=false:=fq s8;have t8n:(y0 !=8)=true:=(by rw [bne,t8];rfl);have t0:(y0==0)=true:=fF s0;have t0n:(y0 !=0)=false:=(by rw [bne,t0];rfl);have u0:(y1==0)=false:=fq s1;have u0n:(y1 !=0)=true:=(by rw [bne,u0];rfl);clear s8 s0 s1;(try dsimp only);go_upto_region 16 with (fail))
     all_goals
      (try dsimp only)
      go_upto_region 16 with (fail)
      refine dB (n:=7) (S:=fun w'=>w'.heap[gn]?=some (.cells #[.int .u32 0,.int .u16 0] 65 (0,0))) (ds:=[]) #[false,false,false,false,false,false,false] (by kernel_rfl) rfl rfl cX.out (fun hHeld=> ?_);refine bF wu.Ce.tab wu.Ce.bits (fun ax eu=> ?_);have ai:=bf (Below.refl w9.heap.size w9);replace HB:=mB HB ai;replace lT:=mX lT ai;replace lY:=mX lY ai;replace cX:=mX cX ai;replace cT:=mX cT ai;replace cL:=mX cL ai;clear ai;generalize w9.drew=ku at HB lT lY cX cT cL hHeld|-
      refine tv 0 87 (.agg #[.int .u32 0,.int .u16 0]) ax eu hHeld ?_ ?_
      ·intro w' s0
       exact bM (p:= .tmp 7) (ty:=65) (by rfl) (by rfl) s0 mM (by rfl) iM.out
      refine nz 87 ?_;refine tv 1 88 (.agg #[.int .u32 0,.int .u16 0]) ax eu hHeld ?_ ?_
      ·intro w' s0
       exact bM (p:= .tmp 7) (ty:=65) (by rfl) (by rfl) s0 mM (by rfl) iM.out
      refine nz 88 ?_;refine oz 2 (none) ax (fun K hK=> ?_);refine cZ (by rfl) (by rfl) rfl rfl rfl lT.out iM.out rfl (by simp [Value.oneCell']) ?_;intro sn hs_ ag;replace lY:=oN ag lY (cg j6);replace cX:=oN ag cX (cg qA);replace cT:=oN ag cT (cg oQ);replace cL:=oN ag cL (cg oT);replace HB:=oB ag HB Qe;clear ag;replace lT:=aa.mk hs_;clear hs_;refine hK.out _ _ cX.out (fun hHeld=> ?_);clear hK K;refine oz 3 (none) ax (fun K hK=> ?_);refine cZ (by rfl) (by rfl) rfl rfl rfl lY.out iM.out rfl (by simp [Value.oneCell']) ?_;intro nP hs_ ag;replace lT:=oN ag lT j6;replace cX:=oN ag cX (cg qB);replace cT:=oN ag cT (cg oS);replace cL:=oN ag cL (cg oU);replace HB:=oB ag HB Qf;clear ag
      replace lY:=aa.mk hs_;clear hs_;refine hK.out _ _ cX.out (fun hHeld=> ?_);clear hK K;refine pz 4 4 ax ?_;refine pz 5 5 ax ?_;refine pz 6 6 ax ?_;refine dz ax ?_;clear ax eu hHeld
      (try dsimp only)
      go_wp2
      (try simp only [Exit.inBlock,Exit.then])
      refine bodyPost_ret (oh rfl _ _ _ _ _ _ _ _ (0,0) (0,0) _ _ rfl lT.out mM rfl iM.out rfl lY.out mM rfl iM.out) rfl ?_;exact ⟨by rw [xK (HW.out)];rfl,HB.out⟩
    ·rcases h4_ with ⟨s8,s1⟩|⟨s8,s0,s1⟩
     all_goals first
      |(have HW:=aa.mk (UR MN.out (E0.out ▸ Kc2.out) (by have h1:=Kc3.out;have h2:=EH.out;omega) (by have h1:=Kc4.out;have h2:=EH.out;have h3:=E8.out;omega) (E9.out ▸ Kp1.out) (by rw [<- EH.out,<- ET.out,<- EC.out,s1];unfold sU;rw [s8];rfl));have t8:(y0==8)=true:=fF s8;have t8n:(y0 !=8)=false:=(by rw [bne,t8];rfl);have u0:(y1==0)=true:=fF s1;have u0n:(y1 !=0)=false:=(by rw [bne,u0];rfl);clear s8 s1;(try dsimp only);go_upto_region 17 with (fail);clear t8 t8n u0 u0n y0_ y1_ q1 q2 q3 q4 hh1)
      |(have HW:=aa.mk (UR MN.out (E0.out ▸ Kc2.out) (by have h1:=Kc3.out;have h2:=EH.out;omega) (by have h1:=Kc4.out;have h2:=EH.out;have h3:=E8.out;omega) (E9.out ▸ Kp1.out) (by rw [<- EH.out,<- ET.out,<- EC.out,s1];unfold sU;rw [fq s8,s0];rfl));have t8:(y0==8)=false:=fq s8;have t8n:(y0 !=8)=true:=(by rw [bne,t8];rfl);have t0:(y0==0)=true:=fF s0;have t0n:(y0 !=0)=false:=(by rw [bne,t0];rfl);have u0:(y1==0)=true:=fF s1;have u0n:(y1 !=0)=false:=(by rw [bne,u0];rfl);clear s8 s0 s1;(try dsimp only);go_upto_region 17 with (fail);clear t8 t8n t0 t0n u0 u0n y0_ y1_ q1 q2 q3 q4 hh1)
     all_goals
      go_wp2_with fail
      refine (aT.calls _ _ b h4 (iX b (hd.toNat+4)) _ (cb HC HB).out HL.out (by have h:=iP Z7.out (hd.toNat+4) (by have:=HG.out;omega) (by have:=HN.out;omega);rwa [show ((hd.toNat+4:Nat):Int)=h4 by have:=HG.out;have:=E4.out;omega] at h)).mono ?_;rintro ev w_ ⟨rfl,⟨nd,rfl⟩⟩;have ai:=dS (Below.refl w9.heap.size w9) nd;replace HB:=mB HB ai;replace lT:=mX lT ai;replace lY:=mX lY ai;replace cX:=mX cX ai;replace cT:=mX cT ai;replace cL:=mX cL ai;clear ai;generalize w9.drewN nd=ku at HB lT lY cX cT cL|-
      (try dsimp only)
      go_upto_region 18 with (((refine jO rfl rfl (i:=1) (v:= .int .u16 (iX b (hd.toNat+4))) (cs':= #[.int .u32 (vU b 12),.int .u16 (iX b (hd.toNat+4))]) cT.out rfl ?eY ?_);(case eY=>(have m_:=(aN cT.out 1).trans (rfl:_=some (.int .u16 0:Value)));(have pU:=ae cT.out 1);first|(go_simp;done)|(go_simp;rfl));intro sn hs_ ag;replace lT:=oN ag lT oQ;replace lY:=oN ag lY oS;replace cX:=oN ag cX zy;replace cL:=oN ag cL (cg jA);replace HB:=oB ag HB G2;clear ag;replace cT:=aa.mk hs_;clear hs_))
      have Cg:=cz cT.out 1 rfl
      go_upto_region 19 with (((refine jO rfl rfl (i:=1) (v:= .int .u16 (iX b (hd.toNat+4))) (cs':= #[.int .u32 (vU b 16),.int .u16 (iX b (hd.toNat+4))]) cL.out rfl ?eY ?_);(case eY=>(have m_:=(aN cL.out 1).trans (rfl:_=some (.int .u16 0:Value)));(have pU:=ae cL.out 1);first|(go_simp;done)|(go_simp;rfl));intro nP hs_ ag;replace lT:=oN ag lT oT;replace lY:=oN ag lY oU;replace cX:=oN ag cX zz;replace cT:=oN ag cT jA;replace HB:=oB ag HB Fb;clear ag;replace cL:=aa.mk hs_;clear hs_))
      clear Cg;refine dB (n:=9) (S:=fun w'=>w'.heap[gs]?=some (.cells #[.int .u32 (vU b 12),.int .u16 (iX b (hd.toNat+4))] 65 (0,0)) /\ w'.heap[gd]?=some (.cells #[.int .u32 (vU b 16),.int .u16 (iX b (hd.toNat+4))] 65 (0,0))) (ds:=[]) #[false,false,false,false,false,false,false,false,false] (by kernel_rfl) rfl rfl ⟨cT.out,cL.out⟩ (fun hHeld=> ?_);refine bF wu.Z6.tab wu.Z6.bits (fun ax eu=> ?_);have ai:=bf (Below.refl nP.heap.size nP);replace HB:=mB HB ai;replace lT:=mX lT ai;replace lY:=mX lY ai;replace cX:=mX cX ai;replace cT:=mX cT ai;replace cL:=mX cL ai;clear ai;generalize nP.drew=yD at HB lT lY cX cT cL hHeld|-
      refine pz 2 99 ax ?_;refine pz 3 100 ax ?_;refine tv 0 97 (.agg #[.int .u32 (vU b 12),.int .u16 (iX b (hd.toNat+4))]) ax eu hHeld ?_ ?_
      ·intro w' s0
       obtain ⟨s0,s1⟩:=s0;exact bM (p:= .tmp 9) (ty:=65) (by rfl) (by rfl) s0 mM (by rfl) iM.out
      refine nz 97 ?_;refine tv 1 98 (.agg #[.int .u32 (vU b 16),.int .u16 (iX b (hd.toNat+4))]) ax eu hHeld ?_ ?_
      ·intro w' s0
       obtain ⟨s0,s1⟩:=s0;exact bM (p:= .tmp 10) (ty:=65) (by rfl) (by rfl) s1 mM (by rfl) iM.out
      refine nz 98 ?_;refine oz 4 (none) ax (fun K hK=> ?_);refine cZ (by rfl) (by rfl) rfl rfl rfl lT.out iM.out rfl (by simp [Value.oneCell']) ?_;intro qY hs_ ag;replace lY:=oN ag lY (cg j6);replace cX:=oN ag cX (cg qA);replace cT:=oN ag cT (cg oQ);replace cL:=oN ag cL (cg oT);replace HB:=oB ag HB Qe;clear ag;replace lT:=aa.mk hs_;clear hs_;refine hK.out _ _ ⟨cT.out,cL.out⟩ (fun hHeld=> ?_);clear hK K;refine oz 5 (none) ax (fun K hK=> ?_);refine cZ (by rfl) (by rfl) rfl rfl rfl lY.out iM.out rfl (by simp [Value.oneCell']) ?_;intro BX hs_ ag;replace lT:=oN ag lT j6;replace cX:=oN ag cX (cg qB);replace cT:=oN ag cT (cg oS);replace cL:=oN ag cL (cg oU);replace HB:=oB ag HB Qf
      clear ag;replace lY:=aa.mk hs_;clear hs_;refine hK.out _ _ ⟨cT.out,cL.out⟩ (fun hHeld=> ?_);clear hK K;refine pz 6 4 ax ?_;refine pz 7 5 ax ?_;refine pz 8 6 ax ?_;refine dz ax ?_;clear ax eu hHeld
      (try dsimp only)
      go_wp2
      (try simp only [Exit.inBlock,Exit.then])
      refine bodyPost_ret (oh rfl _ _ _ _ _ _ _ _ (0,0) (0,0) _ _ rfl lT.out mM rfl iM.out rfl lY.out mM rfl iM.out) rfl ?_;exact ⟨by rw [uK (HW.out),<- EH.out,<- E9.out];unfold sV;rw [aq (E9.out ▸ Kp1.out)];rfl,HB.out⟩
end Go.Proofs.Ytkmimamminddiaa.PB
namespace Go.Proofs.Ytkmimamminddiaa.PB
open Go.RowKit Go.Proofs.ah.bT Go.Proofs.ah.cY Go.Proofs.ah.iw
open Go.Proofs.Ytkmimamminddiaa.Spec Go.Proofs.Ytkmimamminddiaa.Pure
def EM (k:Nat) (a t i fl cr s d:Int) (o b:List Int):Option LK:=
 (nZ.f b).bind fun ⟨us,ud,uc,ub,e⟩=>(jY.f k s d us ud uc ub).bind fun r=>if e=0 then (if r=true then some ⟨a,t,17,i,fl,cr,s,d,o,b,.udp us ud uc ub,us,ud,0,[],0⟩ else some (LK.err 22)) else some (LK.err e)
def EN (k:Nat) (a t i fl cr s d:Int) (o b:List Int):Option LK:=
 (gT.f b).bind fun ⟨ts,td,tq,ta,tf,tw,tc,tu,tJ,tb,e⟩=>(jX.f k s d ts td tq ta tf tw tc tu tJ tb).bind fun r=>if e=0 then (if r=true then some ⟨a,t,6,i,fl,cr,s,d,o,b,.tcp ts td tq ta tf tw tc tu tJ tb,ts,td,tf,[],0⟩ else some (LK.err 22)) else some (LK.err e)
def AH (k:Nat) (a t i fl cr s d:Int) (o b:List Int):Option LK:=
 (ek.f b).bind fun ⟨mt,mc,ms,mr,mb,e⟩=>(jB.f k mt mc ms mr mb).bind fun r=>if e=0 then (if r=true then
  (m9.f mt mc ms mr mb).bind fun ec=>if ec=true then some ⟨a,t,1,i,fl,cr,s,d,o,b,.zg mt mc ms mr mb,mr / 65536 % 65536,mr / 65536 % 65536,0,[],0⟩
  else (mm.f mt mc ms mr mb).bind fun er=>if er=true then (if (nw mb).2.2.2.2=true then some ⟨a,t,1,i,fl,cr,s,d,o,b,.zg mt mc ms mr mb,0,0,0,[(nw mb).1,(nw mb).2.1],0⟩ else some (LK.err 21)) else some (LK.err 21)
  else some (LK.err 22)) else some (LK.err e)
def BS.f (k:Nat) (l:List Int):Option LK:=
 (bC.f k l).bind fun ⟨a,t,pr,i,fl,cr,s,d,o,b,e⟩=>if e=0 then
  if pr=17 then EM k a t i fl cr s d o b else if pr=6 then EN k a t i fl cr s d o b else if pr=1 then AH k a t i fl cr s d o b else some (LK.err 21)
 else some (LK.err e)
theorem US {P:Program} {ops:Array Oper} {rest:List Oper} {o:Oper} {a:Act} {Q:Exit ->Act ->World ->Prop} {W:World} (hgd:o.guard=none) {N:Tmp} (hd:o.dst=some N) (x y:ng) (hrun:(execOp a.eval o).run P W= .ok (.value (.slice (some ⟨W.heap.size,0,none⟩) 2 2)) (W.alloc (.cells #[.int .u32 x.f0,.int .u16 x.f1,.int .u32 y.f0,.int .u16 y.f1] 65)))
  (h:∀ A c w1,Kd.R Fx 65 w1 W.heap.size (fun _=>True) (.slice A ([x,y]:List ng).length c) [x,y] ->Below W.heap.size W w1 ->wpList P ops Q rest (a.put o.dst (.slice A ([x,y]:List ng).length c)) w1):wpList P ops Q (o::rest) a W:=
 Kd.qh Fx W.heap.size 65 hgd hd (xs:=[x,y]) (inner:=[.int .u32 x.f0,.int .u16 x.f1,.int .u32 y.f0,.int .u16 y.f1]) (ok:=fun _=>True) (qW:=fun _=>True) hrun
  (cD.c2 (show Kd.M Fx _ _ _ x [.int .u32 x.f0,.int .u16 x.f1] from xQ _ _ _ x) (cD.c2 (show Kd.M Fx _ _ _ y [.int .u32 y.f0,.int .u16 y.f1] from xQ _ _ _ y) (cD.none _ _))) (fun _ h=>h) trivial (Below.refl _ _) (Nat.le_refl _) (by simp) (fun v1 w1 ho hb hg _=>by
  obtain ⟨A,c,rfl,_,_⟩:=Kd.cj ho
  exact h A c w1 ho hb)
def rlk.R11.T:Bool×List (List Nat×List Nat):=(true,[([],[]),([0],[0]),([],[]),([2],[2]),([0,1],[]),([4,0,1],[4]),([5,1,0,1],[1,5]),([0,1,2,3,4,5,6],[]),([7,0,1,2,3,4,5,6],[7]),([8,3,6,0,1,2,3,4,5,6],[3,8])])
theorem rlk.R11.tab:gB .any (opsOf Try.f66 11)=rlk.R11.T:=by kernel_rfl
theorem rlk.R11.bits:cS rlk.R11.T.2 [0,1,0,4,3,19,51,127,255,511]=true:=by kernel_rfl
def rlk.Qz.T:Bool×List (List Nat×List Nat):=(true,[([],[]),([],[]),([0,0],[0]),([1,2,0,1,2],[1]),([3,0,1,2,3],[])])
theorem rlk.Qz.tab:gB .any (opsOf Try.f66 32)=rlk.Qz.T:=by kernel_rfl
theorem rlk.Qz.bits:cS rlk.Qz.T.2 [0,0,1,7,15]=true:=by kernel_rfl
def rlk.R15.T:Bool×List (List Nat×List Nat):=(true,[([],[]),([0],[0]),([],[]),([2],[2]),([],[]),([4],[4]),([0,1],[]),([6,0,1],[6]),([7,1,0,1],[1,7]),([0,1,2,3,6,7,8],[]),([9,0,1,2,3,6,7,8],[9]),([10,3,8,0,1,2,3,6,7,8],[3,10]),([0,1,2,3,4,5,6,7,8,9,10,11],[]),([12,5,11,0,1,2,3,4,5,6,7,8,9,10,11],[5,12])])
theorem rlk.R15.tab:gB .any (opsOf Try.f66 15)=rlk.R15.T:=by kernel_rfl
theorem rlk.R15.bits:cS rlk.R15.T.2 [0,1,0,4,0,16,3,67,195,463,975,1999,4095,8191]=true:=by kernel_rfl
def rlk.FP.T:Bool×List (List Nat×List Nat):=(true,[([],[]),([0],[0]),([1],[1]),([2],[2]),([],[]),([4],[4]),([5],[5]),([6],[6]),([0,1,2,3],[]),([8,0,1,2,3],[8]),([9,3,0,1,2,3],[3,9]),([0,1,2,3,4,5,6,7,8,9,10],[]),([11,0,1,2,3,4,5,6,7,8,9,10],[11]),([12,7,10,0,1,2,3,4,5,6,7,8,9,10],[7,12])])
theorem rlk.FP.tab:gB .any (opsOf Try.f66 22)=rlk.FP.T:=by kernel_rfl
theorem rlk.FP.bits:cS rlk.FP.T.2 [0,1,3,7,0,16,48,112,15,271,783,2047,4095,8191]=true:=by kernel_rfl
end Go.Proofs.Ytkmimamminddiaa.PB
