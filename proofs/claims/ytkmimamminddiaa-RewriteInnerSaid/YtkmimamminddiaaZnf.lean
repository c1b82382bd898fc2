/- Texts of this claim, merged: PBx23, RwPkt, RwKn, PBx30, PBx32, PBx55, PBx34, Spec, SpecSum, BytesEq, BytesEqB, FT, SumEq, SumEqP, SumEqO, PBx1, PBx57, RwTs. -/
import Derived.Test.YtkmimamminddiaaZnb
import Derived.Test.YtkmimamminddiaaZne
import Derived.Deep.Cut
import Derived.Deep.CutRange
import Derived.Deep.CutBlock
import Derived.Deep.WholeRow
import Derived.BigQuiet
import Derived.Deep.QuietTactic
import Derived.Test.YtkmimamminddiaaZnd
import Derived.Laws.BitsAllLaws
import Derived.Laws.BitsLemmas
import Derived.RowKit
import Derived.Test.YtkmimamminddiaaZnc
set_option maxHeartbeats 40000000
set_option maxRecDepth 100000
set_option linter.unusedVariables false
set_option linter.unusedSimpArgs false
namespace Go.Proofs.Ytkmimamminddiaa.PB
open Go.RowKit Go.Proofs.ah.bT Go.Proofs.ah.cY Go.Proofs.ah.iw
attribute [local go_sem] dI dJ eI eJ cO cP dK dL
def aI.j0:Nat ->Bool ->Int ->Int ->Int ->Int ->Int ->Int ->Int ->Int ->List Int ->List Int ->Option (List Int×Int)
 |0,_,_,_,_,_,_,_,_,_,_,_=>none
 |k+1,GR,Xg,Xh,Xi,Xj,Xk,Xl,Xm,Xn,Ap,CW=>if GR=true then (some (([]:List Int),21)) else (if (CW.length:Int)>(wrap64 (65535 - (wrap64 (20+(Ap.length:Int))))) then (some (([]:List Int),23)) else ((bp.f (([Go.bits .or .u8 64 ((wrap64 (Int.tdiv (wrap64 (20+(Ap.length:Int))) 4)) % 256),Xg]:List Int)) (IntKind.u16.wrap (wrap64 ((wrap64 (20+(Ap.length:Int)))+(CW.length:Int))))).bind fun HI=>((bp.f HI Xj).bind fun Bj=>((bp.f Bj (Go.bits .or .u16 (IntKind.u16.wrap ((IntKind.u16.wrap (Xk))*8192)) Xl)).bind fun zj=>((some (([Xh,Xi,0,0]:List Int):List Int)).bind fun uH=>(if zj.length+uH.length<140737488355328 then ((dM.f (zj++uH) Xm).bind fun Eg=>((dM.f Eg Xn).bind fun Bk=>(if Bk.length+Ap.length<140737488355328 then ((some (Bk++Ap:List Int)).bind fun lW=>((iK.f k lW).bind fun uo=>(if 10<(lW.length:Int) then (if 11<(lW.length:Int) then ((some ((lW.set (10:Int).toNat ((uo / 256) % 256)).set (11:Int).toNat ((uo) % 256):List Int)).bind fun uq=>(if uq.length+CW.length<140737488355328 then (some ((uq++CW),0)) else (none))) else (none)) else (none)))) else (none)))) else (none)))))))
def aI.f (k:Nat) (aU:Int) (bh:Int) (bn:Int) (bu:Int) (dP:Int) (dR:Int) (dX:Int) (dY:Int) (bH:List Int) (cE:List Int):Option (List Int×Int):=if ((bH.length:Int) % 4)=0 then (if (bH.length:Int)>40 then (aI.j0 k true aU bh bn bu dP dR dX dY bH cE) else (if dP>7 then (aI.j0 k true aU bh bn bu dP dR dX dY bH cE) else (aI.j0 k (decide (dR>8191)) aU bh bn bu dP dR dX dY bH cE))) else (aI.j0 k true aU bh bn bu dP dR dX dY bH cE)
def aI.T7:Bool×List (List Nat×List Nat):=(true,[([],[]),([],[]),([],[]),([2],[2]),([3],[3]),([1,4],[1,4]),([5],[5]),([0,6],[0,6]),([],[]),([8],[8]),([7,9,7],[7,9]),([10,10,0,1,2,3,4,5,6,7,8,9,10],[0,10])])
def aI.B7:List Nat:=[0,0,0,4,12,30,62,127,0,256,1023,2047]
theorem aI.RF:gB .any (opsOf Try.f41 7)=aI.T7:=by kernel_rfl
theorem aI.Jd:cS aI.T7.2 aI.B7=true:=by kernel_rfl
def aI.T8:Bool×List (List Nat×List Nat):=(true,[([],[]),([],[]),([1],[1]),([2],[2]),([3],[3]),([],[]),([5],[5]),([4,6],[4,6]),([0,7],[0,7]),([],[]),([9],[9]),([],[]),([11],[11]),([10,12],[10,12]),([8,13,8],[8,13]),([14,14,0,1,2,3,4,5,6,7,8,9,10,11,12,13,14],[0,14])])
def aI.B8:List Nat:=[0,0,2,6,14,0,32,126,255,0,512,0,2048,7680,16383,32767]
theorem aI.EZ:gB .any (opsOf Try.f41 8)=aI.T8:=by kernel_rfl
theorem aI.yK:cS aI.T8.2 aI.B8=true:=by kernel_rfl
def aI.T9:Bool×List (List Nat×List Nat):=(true,[([],[]),([],[]),([1],[1]),([0,2],[0,2]),([],[]),([4],[4]),([3,5,3],[3,5]),([],[]),([7],[7]),([6,8,6],[6,8]),([9,9,0,1,2,3,4,5,6,7,8,9],[0,9])])
def aI.B9:List Nat:=[0,0,2,7,0,16,63,0,128,511,1023]
theorem aI.AcX:gB .any (opsOf Try.f41 9)=aI.T9:=by kernel_rfl
theorem aI.TJ:cS aI.T9.2 aI.B9=true:=by kernel_rfl
theorem aI.calls (k:Nat) (aU:Int) (bh:Int) (bn:Int) (bu:Int) (dP:Int) (dR:Int) (dX:Int) (dY:Int) (jq:Option Addr) (jr:Nat) (bH:List Int) (js:Option Addr) (ju:Nat) (cE:List Int) (r1:List Int) (r2:Int) (w:World) (tN:Kd.C (Kd.int .u8) w jq bH.length bH) (tO:bH.length<=jr) (tP:Kd.C (Kd.int .u8) w js cE.length cE) (tQ:cE.length<=ju) (h:aI.f k aU bh bn bu dP dR dX dY bH cE=some (r1,r2)):
  Calls Try.prog 41 #[.agg #[.int .u8 aU,.int .u8 bh,.int .u8 bn,.int .u16 bu,.int .u8 dP,.int .u16 dR,.int .u32 dX,.int .u32 dY,.slice jq bH.length jr,.slice js cE.length ju]] w fun e w'=>∃ oW:Value,e= .returned (.tuple #[oW,.int .i64 r2]) /\ Kd.R (Kd.int .u8) 5 w' w.heap.size (fun _=>True) oW r1 /\ Below w.heap.size w w':=by
 have iW:=Try.underlying73;have BI:=aa.mk tN;have JC:=aa.mk tO;clear tN tO;have BJ:=aa.mk tP;have JD:=aa.mk tQ;clear tP tQ;have HB:=gI w;have H:(if ((bH.length:Int) % 4)=0 then (if (bH.length:Int)>40 then (aI.j0 k true aU bh bn bu dP dR dX dY bH cE) else (if dP>7 then (aI.j0 k true aU bh bn bu dP dR dX dY bH cE) else (aI.j0 k (decide (dR>8191)) aU bh bn bu dP dR dX dY bH cE))) else (aI.j0 k true aU bh bn bu dP dR dX dY bH cE))=some (r1,r2):=h;clear h;have LO:=aa.mk H;clear H
 go_enter Try.func41,Try.ntmps41
 go_upto_region 1 with (first|((with_reducible refine aA (N:=1) rfl ?_);(try (refine eP (by rfl) ?_;dsimp only));refine aC ?hg (N:=1) ?hd (cs:= #[.int .u8 aU,.int .u8 bh,.int .u8 bn,.int .u16 bu,.int .u8 dP,.int .u16 dR,.int .u32 dX,.int .u32 dY,.slice jq bH.length jr,.slice js cE.length ju]) (t:=73) ?hr ?_;(case hd=>rfl);(case hg=>rfl);(case hr=>first|(go_simp;done)|(go_simp;rfl));intro fL hg w3 bJ hb;have aH:=aa.mk (au (bz HB) hb);have aK:=aa.mk (bJ);have bt:=aa.mk ((by rw [hg];exact (af (bz HB)):w.heap.size<=fL));have cC:=aa.mk ((by rw [hg];exact (af (bz HB)):w.heap.size<=fL));clear HB;have HB:=aH;have aV:=aK;have AtA:=bt;have AtB:=cC;clear aH aK bt cC;clear hb bJ hg))
 (try simp only [Act.put,List.setIfInBounds_toArray,List.set_cons_zero,List.set_cons_succ])
 go_cut [27] (fun v27 wc=>∃ (kq:Nat) (Og:Bool),v27= .bool Og /\ aa (aI.j0 kq Og aU bh bn bu dP dR dX dY bH cE=some (r1,r2)) /\ aa (kq<=k) /\ aa (wc.heap[fL]?=some (.cells #[.int .u8 aU,.int .u8 bh,.int .u8 bn,.int .u16 bu,.int .u8 dP,.int .u16 dR,.int .u32 dX,.int .u32 dY,(.slice jq bH.length jr),(.slice js cE.length ju)] 73 (0,0))) /\ aa (Below w.heap.size w wc))
 case first=>
  have H:=LO.out;clear LO
  by_cases c4:((bH.length:Int) % 4)=0
  rotate_left
  ·rw [av c4] at H
   have mw:(((bH.length:Int) % 4)==0)=false:=fq c4;have yh:(((bH.length:Int) % 4) !=0)=true:=lf c4
   (first|rw [mw]|(simp only [gK,kD];rw [mw])|skip)
   have H':=aa.mk H;clear H;have S1:=ru aV.out;have S3:=ae aV.out
   go_wp2
   go_meet
   case rel=>exact ⟨_,(true),(by first|rfl|(simp;done)|(simp [*];done)),H',⟨by first|omega|exact Nat.le_refl _⟩,⟨kz aV⟩,⟨bz HB⟩⟩
  rw [aq c4] at H
  have mw:(((bH.length:Int) % 4)==0)=true:=fF c4;have yh:(((bH.length:Int) % 4) !=0)=false:=kL c4;clear c4
  (first|rw [mw]|(simp only [gK,kD];rw [mw])|skip)
  by_cases c5:(bH.length:Int)>40
  ·rw [aq c5] at H
   have mJ:decide (40<(bH.length:Int))=true:=bN c5;have qn:decide (40<bH.length)=true:=bN (by omega);clear c5;have H':=aa.mk H;clear H;have Nt:=ru aV.out;have Nu:=ae aV.out
   go_wp2
   go_meet
   case rel=>exact ⟨_,(true),(by first|rfl|(simp;done)|(simp [*];done)),H',⟨by first|omega|exact Nat.le_refl _⟩,⟨kz aV⟩,⟨bz HB⟩⟩
  rw [av c5] at H
  have mJ:decide (40<(bH.length:Int))=false:=gN c5;have qn:decide (40<bH.length)=false:=gN (by omega);clear c5
  by_cases c7:dP>7
  ·rw [aq c7] at H
   have AV:decide (7<dP)=true:=bN c7;clear c7;have H':=aa.mk H;clear H;have AlA:=ru aV.out;have AlB:=ae aV.out
   go_wp2
   go_meet
   case rel=>exact ⟨_,(true),(by first|rfl|(simp;done)|(simp [*];done)),H',⟨by first|omega|exact Nat.le_refl _⟩,⟨kz aV⟩,⟨bz HB⟩⟩
  rw [av c7] at H
  have AV:decide (7<dP)=false:=gN c7;clear c7;have H':=aa.mk H;clear H;have NK:=ru aV.out;have NL:=ae aV.out
  go_wp2
  go_meet
  case rel=>exact ⟨_,(decide (dR>8191)),(by first|rfl|(simp;done)|(simp [*];done)),H',⟨by first|omega|exact Nat.le_refl _⟩,⟨kz aV⟩,⟨bz HB⟩⟩
 clear LO;obtain ⟨kq,Og,rfl,HA,HJ1,aV,HB⟩:=hcut
 cases kq with
 |zero=>exact absurd HA.out (by simp [aI.j0])
 |succ Ph=>
  have H:=HA.out;clear HA;simp only [aI.j0] at H
  by_cases qX:Og=true
  ·subst qX
   have H1:(some (([]:List Int),21))=some (r1,r2):=by rw [aq rfl] at H;exact H
   clear H;have H:=H1;clear H1;simp only [Option.some.injEq,Prod.mk.injEq] at H
   obtain ⟨rfl,rfl⟩:=H
   go_wp2
   go_ret2
   exact ⟨_,by first|rfl|(simp [aj,ak]<;>rfl)|(simp [*,aj,ak]<;>rfl),by first|exact Kd.bX _ _ _ _ _|exact Kd.jn _ _ _ _ _|exact Kd.jo _ _ _ _ _|exact Kd.jl _ _ _ _ _|exact Kd.jm _ _ _ _ _,bz HB⟩
  replace qX:=zE qX
  subst qX
  have H1:(if (cE.length:Int)>(wrap64 (65535 - (wrap64 (20+(bH.length:Int))))) then (some (([]:List Int),23)) else ((bp.f (([Go.bits .or .u8 64 ((wrap64 (Int.tdiv (wrap64 (20+(bH.length:Int))) 4)) % 256),aU]:List Int)) (IntKind.u16.wrap (wrap64 ((wrap64 (20+(bH.length:Int)))+(cE.length:Int))))).bind fun HI=>((bp.f HI bu).bind fun Bj=>((bp.f Bj (Go.bits .or .u16 (IntKind.u16.wrap ((IntKind.u16.wrap (dP))*8192)) dR)).bind fun zj=>((some (([bh,bn,0,0]:List Int):List Int)).bind fun uH=>(if zj.length+uH.length<140737488355328 then ((dM.f (zj++uH) dX).bind fun Eg=>((dM.f Eg dY).bind fun Bk=>(if Bk.length+bH.length<140737488355328 then ((some (Bk++bH:List Int)).bind fun lW=>((iK.f Ph lW).bind fun uo=>(if 10<(lW.length:Int) then (if 11<(lW.length:Int) then ((some ((lW.set (10:Int).toNat ((uo / 256) % 256)).set (11:Int).toNat ((uo) % 256):List Int)).bind fun uq=>(if uq.length+cE.length<140737488355328 then (some ((uq++cE),0)) else (none))) else (none)) else (none)))) else (none)))) else (none)))))))=some (r1,r2):=by rw [av (show ¬ (false=true) by decide)] at H;exact H
  clear H;have H:=H1;clear H1
  by_cases uQ:(cE.length:Int)>(wrap64 (65535 - (wrap64 (20+(bH.length:Int)))))
  ·rw [aq uQ] at H
   have FA:decide ((wrap64 (65535 - (wrap64 (20+(bH.length:Int)))))<(cE.length:Int))=true:=bN uQ;clear uQ;simp only [Option.some.injEq,Prod.mk.injEq] at H
   obtain ⟨rfl,rfl⟩:=H;have TR:=ru aV.out;have TS:=ae aV.out
   go_wp2
   go_ret2
   exact ⟨_,by first|rfl|(simp [aj,ak]<;>rfl)|(simp [*,aj,ak]<;>rfl),by first|exact Kd.bX _ _ _ _ _|exact Kd.jn _ _ _ _ _|exact Kd.jo _ _ _ _ _|exact Kd.jl _ _ _ _ _|exact Kd.jm _ _ _ _ _,bz HB⟩
  rw [av uQ] at H
  have FA:decide ((wrap64 (65535 - (wrap64 (20+(bH.length:Int)))))<(cE.length:Int))=false:=gN uQ;clear uQ;obtain ⟨Xo,TT⟩:∃ y_:List Int,y_=(([Go.bits .or .u8 64 ((wrap64 (Int.tdiv (wrap64 (20+(bH.length:Int))) 4)) % 256),aU]:List Int)):=⟨_,rfl⟩
  rw [<- TT] at H
  have Zn:=aa.mk TT;clear TT;replace H:=dc H;obtain ⟨HI,Dm,H⟩:=H
  (try dsimp -simprocs only at H)
  have A14:=aa.mk Dm;clear Dm;replace H:=dc H;obtain ⟨Bj,Eb,H⟩:=H
  (try dsimp -simprocs only at H)
  have A15:=aa.mk Eb;clear Eb;replace H:=dc H;obtain ⟨zj,wU,H⟩:=H
  (try dsimp -simprocs only at H)
  have Qq:=aa.mk wU;clear wU;obtain ⟨uH,Kp⟩:∃ y_:List Int,y_=(([bh,bn,0,0]:List Int)):=⟨_,rfl⟩
  replace H:(if zj.length+uH.length<140737488355328 then ((dM.f (zj++uH) dX).bind fun Eg=>((dM.f Eg dY).bind fun Bk=>(if Bk.length+bH.length<140737488355328 then ((some (Bk++bH:List Int)).bind fun lW=>((iK.f Ph lW).bind fun uo=>(if 10<(lW.length:Int) then (if 11<(lW.length:Int) then ((some ((lW.set (10:Int).toNat ((uo / 256) % 256)).set (11:Int).toNat ((uo) % 256):List Int)).bind fun uq=>(if uq.length+cE.length<140737488355328 then (some ((uq++cE),0)) else (none))) else (none)) else (none)))) else (none)))) else (none))=some (r1,r2):=by first|(rw [Kp];with_reducible exact H)|(have kE:=(bD _ _).symm.trans H;rw [Kp];with_reducible exact kE)|(have kE:=(bD _ _).symm.trans H;with_reducible exact kE)|with_reducible exact H|(rw [Kp];exact H)|exact H
  have Oh:=aa.mk Kp;clear Kp
  by_cases rH:zj.length+uH.length<140737488355328
  rotate_left
  ·rw [av rH] at H
   cases H
  rw [aq rH] at H
  have Aix:=aa.mk rH;clear rH;obtain ⟨Xp,TU⟩:∃ y_:List Int,y_=(zj++uH):=⟨_,rfl⟩
  rw [<- TU] at H
  have Aiy:=aa.mk TU;clear TU;replace H:=dc H;obtain ⟨Eg,wV,H⟩:=H
  (try dsimp -simprocs only at H)
  have OY:=aa.mk wV;clear wV;replace H:=dc H;obtain ⟨Bk,Dt,H⟩:=H
  (try dsimp -simprocs only at H)
  have A19:=aa.mk Dt;clear Dt
  by_cases LQ:Bk.length+bH.length<140737488355328
  rotate_left
  ·rw [av LQ] at H
   cases H
  rw [aq LQ] at H
  have Sn:=aa.mk LQ;clear LQ;obtain ⟨lW,Kq⟩:∃ y_:List Int,y_=(Bk++bH):=⟨_,rfl⟩
  replace H:((iK.f Ph lW).bind fun uo=>(if 10<(lW.length:Int) then (if 11<(lW.length:Int) then ((some ((lW.set (10:Int).toNat ((uo / 256) % 256)).set (11:Int).toNat ((uo) % 256):List Int)).bind fun uq=>(if uq.length+cE.length<140737488355328 then (some ((uq++cE),0)) else (none))) else (none)) else (none)))=some (r1,r2):=by first|(rw [Kq];with_reducible exact H)|(have kE:=(bD _ _).symm.trans H;rw [Kq];with_reducible exact kE)|(have kE:=(bD _ _).symm.trans H;with_reducible exact kE)|with_reducible exact H|(rw [Kq];exact H)|exact H
  have Aiz:=aa.mk Kq;clear Kq;replace H:=dc H;obtain ⟨uo,Kr,H⟩:=H;replace H:(if 10<(lW.length:Int) then (if 11<(lW.length:Int) then ((some ((lW.set (10:Int).toNat ((uo / 256) % 256)).set (11:Int).toNat ((uo) % 256):List Int)).bind fun uq=>(if uq.length+cE.length<140737488355328 then (some ((uq++cE),0)) else (none))) else (none)) else (none))=some (r1,r2):=H;have A21:=aa.mk Kr;clear Kr
  by_cases I1:10<(lW.length:Int)
  rotate_left
  ·rw [av I1] at H
   cases H
  rw [aq I1] at H
  have Rk:decide (10<(lW.length:Int))=true:=bN I1;have Ae6:decide (10<lW.length)=true:=bN (by omega);clear I1;obtain ⟨AiA,TV⟩:∃ y_:List Int,y_=(lW.set (10:Int).toNat ((uo / 256) % 256)):=⟨_,rfl⟩
  rw [<- TV] at H
  have AiB:=aa.mk TV;clear TV
  by_cases Nm:11<(lW.length:Int)
  rotate_left
  ·rw [av Nm] at H
   cases H
  rw [aq Nm] at H
  have Yf:decide (11<(lW.length:Int))=true:=bN Nm;have AfL:decide (11<lW.length)=true:=bN (by omega);clear Nm;obtain ⟨uq,Ks⟩:∃ y_:List Int,y_=(AiA.set (11:Int).toNat ((uo) % 256)):=⟨_,rfl⟩
  replace H:(if uq.length+cE.length<140737488355328 then (some ((uq++cE),0)) else (none))=some (r1,r2):=by first|(rw [Ks];with_reducible exact H)|(have kE:=(bD _ _).symm.trans H;rw [Ks];with_reducible exact kE)|(have kE:=(bD _ _).symm.trans H;with_reducible exact kE)|with_reducible exact H|(rw [Ks];exact H)|exact H
  have AiC:=aa.mk Ks;clear Ks
  by_cases c26:uq.length+cE.length<140737488355328
  rotate_left
  ·rw [av c26] at H
   cases H
  rw [aq c26] at H
  have AiD:=aa.mk c26;clear c26;obtain ⟨Aqb,Kt⟩:∃ y_:List Int,y_=(uq++cE):=⟨_,rfl⟩
  replace H:(some (Aqb,0))=some (r1,r2):=by first|(rw [Kt];with_reducible exact H)|(have kE:=(bD _ _).symm.trans H;rw [Kt];with_reducible exact kE)|(have kE:=(bD _ _).symm.trans H;with_reducible exact kE)|with_reducible exact H|(rw [Kt];exact H)|exact H
  have AiE:=aa.mk Kt;clear Kt;simp only [Option.some.injEq,Prod.mk.injEq] at H
  obtain ⟨rfl,rfl⟩:=H;have St:=ru aV.out;have Su:=ae aV.out
  try go_wp2_with (first|((with_reducible refine aA (N:=44) rfl ?_);(try (refine eP (by rfl) ?_;dsimp only));refine Kd.qh (Kd.int .u8) _ 5 ?hg (N:=44) ?hd (xs:=([Go.bits .or .u8 64 ((wrap64 (Int.tdiv (wrap64 (20+(bH.length:Int))) 4)) % 256),aU]:List Int)) (inner:=[.int .u8 (Go.bits .or .u8 64 ((wrap64 (Int.tdiv (wrap64 (20+(bH.length:Int))) 4)) % 256)),.int .u8 aU]) (ok:=fun _=>True) (qW:=fun _=>True) ?hr ?hp (fun _ hk=>hk) trivial (Below.refl _ _) (Nat.le_refl _) (by simp) ?_;(case hd=>rfl);(case hg=>rfl);(case hr=>first|(go_simp;done)|(go_simp;simp only [IntKind.wrap_u8,IntKind.wrap_u16,IntKind.wrap_u32];done)|(go_simp;rfl));(case hp=>exact (cD.one (show Kd.M (Kd.int .u8) _ _ _ (Go.bits .or .u8 64 ((wrap64 (Int.tdiv (wrap64 (20+(bH.length:Int))) 4)) % 256)) [.int .u8 (Go.bits .or .u8 64 ((wrap64 (Int.tdiv (wrap64 (20+(bH.length:Int))) 4)) % 256))] from rfl) (cD.one (show Kd.M (Kd.int .u8) _ _ _ aU [.int .u8 aU] from rfl) (cD.none _ _))));intro Axd w28 z9 hb fT iN;clear fT iN;(first|rw [<- Zn.out] at z9|(simp only [Int.reduceToNat] at z9;rw [<- Zn.out] at z9));have aH:=aa.mk (Kd.bP z9 (af (bz HB)));have aK:=aa.mk (bq (kz aV) hb);have bt:=aa.mk (au (bz HB) hb);clear aV;clear HB;have BP:=aH;have aV:=aK;have HB:=bt;clear aH aK bt;clear hb z9))
  have aH:=aa.mk (Kd.fj BP.out);have aK:=aa.mk (aJ aV.out);have bt:=aa.mk (bf HB.out);clear BP;clear aV;clear HB;have BP:=aH;have aV:=aK;have HB:=bt;clear aH aK bt;obtain ⟨yA,yB,V5⟩:=Kd.dn BP.out
  (first|subst V5|(injection V5 with mT ry mU;have rA:=mT.symm;have rB:=mU.symm;clear mT ry mU;subst rA;subst rB))
  refine dB (n:=12) (S:=fun w'=>w'.cell? ⟨fL,0,none⟩=some (.int .u8 aU) /\ w'.cell? ⟨fL,1,none⟩=some (.int .u8 bh) /\ w'.cell? ⟨fL,2,none⟩=some (.int .u8 bn) /\ w'.cell? ⟨fL,3,none⟩=some (.int .u16 bu) /\ w'.cell? ⟨fL,4,none⟩=some (.int .u8 dP) /\ w'.cell? ⟨fL,5,none⟩=some (.int .u16 dR) /\ w'.cell? ⟨fL,6,none⟩=some (.int .u32 dX) /\ w'.cell? ⟨fL,7,none⟩=some (.int .u32 dY) /\ w'.cell? ⟨fL,8,none⟩=some (.slice jq bH.length jr) /\ w'.cell? ⟨fL,9,none⟩=some (.slice js cE.length ju)) (ds:=[]) #[false,false,false,false,false,false,false,false,false,false,false,false] (by kernel_rfl) rfl rfl ⟨cz aV.out 0 rfl,cz aV.out 1 rfl,cz aV.out 2 rfl,cz aV.out 3 rfl,cz aV.out 4 rfl,cz aV.out 5 rfl,cz aV.out 6 rfl,cz aV.out 7 rfl,cz aV.out 8 rfl,cz aV.out 9 rfl⟩ (fun hHeld=> ?_);refine bF aI.RF aI.Jd (fun ax eu=> ?_)
  generalize w28.drew=Pj at BP aV HB hHeld|-
  refine pz 0 45 ax ?_;refine pz 1 46 ax ?_;refine pz 2 47 ax ?_;refine pz 8 53 ax ?_;refine gF (i:=3) (N:=some 48) (v:= ?_) (a':= ?_) #[true,true,true,true,false,false,false,false,true,false,false,false] rfl rfl (dm ax.out eu.out (by kernel_rfl)) (fun _ _ _ h=>h) (Or.inl ⟨by rfl, ?_⟩) hHeld ?_ ?_
  rotate_left
  ·rintro w' ⟨s0,s1,s2,s3,s4,s5,s6,s7,s8,s9⟩
   go_simp
   with_reducible rfl
  rotate_left
  ·simp only [pG]
   rfl
  refine pz 4 49 ax ?_;refine pz 5 50 ax ?_;refine pz 6 51 ax ?_;refine gF (i:=9) (N:=some 54) (v:= ?_) (a':= ?_) #[true,true,true,true,true,true,true,false,true,true,false,false] rfl rfl (dm ax.out eu.out (by kernel_rfl)) (fun _ _ _ h=>h) (Or.inl ⟨by rfl, ?_⟩) hHeld ?_ ?_
  rotate_left
  ·rintro w' ⟨s0,s1,s2,s3,s4,s5,s6,s7,s8,s9⟩
   go_simp
   with_reducible rfl
  rotate_left
  ·simp only [pG]
   rfl
  refine oz 7 (some 52) ax (fun K hK=> ?_);refine gG Try.func83 #[.slice yA Xo.length yB,.int .u16 (IntKind.u16.wrap (wrap64 ((wrap64 (20+(bH.length:Int)))+(cE.length:Int))))] ?_
  with_reducible refine (bp.calls (fun k_=>some k_=(.slice yA Xo.length yB:Value).ownBlock) (.slice yA Xo.length yB) Xo (IntKind.u16.wrap (wrap64 ((wrap64 (20+(bH.length:Int)))+(cE.length:Int)))) HI w _ ?aE ?aG A14.out).mono ?_
  (case aE=>exact bz HB)
  (case aG=>exact Kd.kF rfl BP.out)
  rintro e w32 ⟨Axe,rfl,gC,hb,hkp⟩;refine ⟨_,rfl, ?_⟩;have aH:=aa.mk (ja (kz aV) hkp (fun hs_=>(fun e_=>(Kd.nk BP.out aV.out (by decide)) e_) hs_));have aK:=aa.mk (Kd.dA (ok':=fun k_=>True) gC (fun k_ mo=>trivial));have bt:=aa.mk (hb);clear aV;clear HB;clear BP;have aV:=aH;have Oi:=aK;have HB:=bt;clear aH aK bt
  (try clear hb)
  (try clear hkp)
  (try clear gC)
  obtain ⟨Bf,Aa,E7⟩:=Kd.dn Oi.out
  (first|subst E7|(injection E7 with mT ry mU;have rA:=mT.symm;have rB:=mU.symm;clear mT ry mU;subst rA;subst rB))
  refine hK.out _ _ ⟨cz aV.out 0 rfl,cz aV.out 1 rfl,cz aV.out 2 rfl,cz aV.out 3 rfl,cz aV.out 4 rfl,cz aV.out 5 rfl,cz aV.out 6 rfl,cz aV.out 7 rfl,cz aV.out 8 rfl,cz aV.out 9 rfl⟩ (fun hHeld=> ?_);clear hK K;refine nz 52 ?_;refine oz 10 (some 55) ax (fun K hK=> ?_);refine gG Try.func83 #[.slice Bf HI.length Aa,.int .u16 bu] ?_
  with_reducible refine (bp.calls (fun k_=>some k_=(.slice Bf HI.length Aa:Value).ownBlock) (.slice Bf HI.length Aa) HI bu Bj w _ ?aE ?aG A15.out).mono ?_
  (case aE=>exact bz HB)
  (case aG=>exact Kd.kF rfl Oi.out)
  rintro e LR ⟨Axf,rfl,gC,hb,hkp⟩;refine ⟨_,rfl, ?_⟩;have aH:=aa.mk (ja (kz aV) hkp (fun hs_=>(fun e_=>(Kd.nk Oi.out aV.out (by decide)) e_) hs_));have aK:=aa.mk (Kd.dA (ok':=fun k_=>True) gC (fun k_ mo=>trivial));have bt:=aa.mk (hb);clear aV;clear HB;clear Oi;have aV:=aH;have rM:=aK;have HB:=bt;clear aH aK bt
  (try clear hb)
  (try clear hkp)
  (try clear gC)
  refine hK.out _ _ ⟨cz aV.out 0 rfl,cz aV.out 1 rfl,cz aV.out 2 rfl,cz aV.out 3 rfl,cz aV.out 4 rfl,cz aV.out 5 rfl,cz aV.out 6 rfl,cz aV.out 7 rfl,cz aV.out 8 rfl,cz aV.out 9 rfl⟩ (fun hHeld=> ?_);clear hK K;refine nz 55 ?_;refine pz 11 5 ax ?_;refine dz ax ?_;obtain ⟨PF,PG,Aqc⟩:=Kd.dn rM.out;subst Aqc
  try go_wp2
  have aH:=aa.mk (Kd.fj rM.out);have aK:=aa.mk (aJ aV.out);have bt:=aa.mk (bf HB.out);clear rM;clear aV;clear HB;have rM:=aH;have aV:=aK;have HB:=bt;clear aH aK bt
  refine dB (n:=16) (S:=fun w'=>w'.cell? ⟨fL,0,none⟩=some (.int .u8 aU) /\ w'.cell? ⟨fL,1,none⟩=some (.int .u8 bh) /\ w'.cell? ⟨fL,2,none⟩=some (.int .u8 bn) /\ w'.cell? ⟨fL,3,none⟩=some (.int .u16 bu) /\ w'.cell? ⟨fL,4,none⟩=some (.int .u8 dP) /\ w'.cell? ⟨fL,5,none⟩=some (.int .u16 dR) /\ w'.cell? ⟨fL,6,none⟩=some (.int .u32 dX) /\ w'.cell? ⟨fL,7,none⟩=some (.int .u32 dY) /\ w'.cell? ⟨fL,8,none⟩=some (.slice jq bH.length jr) /\ w'.cell? ⟨fL,9,none⟩=some (.slice js cE.length ju)) (ds:=[]) #[false,false,false,false,false,false,false,false,false,false,false,false,false,false,false,false] (by kernel_rfl) rfl rfl ⟨cz aV.out 0 rfl,cz aV.out 1 rfl,cz aV.out 2 rfl,cz aV.out 3 rfl,cz aV.out 4 rfl,cz aV.out 5 rfl,cz aV.out 6 rfl,cz aV.out 7 rfl,cz aV.out 8 rfl,cz aV.out 9 rfl⟩ (fun hHeld=> ?_);refine bF aI.EZ aI.yK (fun ax eu=> ?_)
  generalize LR.drew=VM at rM aV HB hHeld|-
  refine pz 0 56 ax ?_;refine pz 1 57 ax ?_;refine pz 5 61 ax ?_;refine pz 9 65 ax ?_;refine pz 11 67 ax ?_;refine gF (i:=2) (N:=some 58) (v:= ?_) (a':= ?_) #[true,true,true,false,false,true,false,false,false,true,false,true,false,false,false,false] rfl rfl (dm ax.out eu.out (by kernel_rfl)) (fun _ _ _ h=>h) (Or.inl ⟨by rfl, ?_⟩) hHeld ?_ ?_
  rotate_left
  ·rintro w' ⟨s0,s1,s2,s3,s4,s5,s6,s7,s8,s9⟩
   go_simp
   with_reducible rfl
  rotate_left
  ·simp only [pG]
   rfl
  refine pz 3 59 ax ?_;refine pz 4 60 ax ?_;refine gF (i:=6) (N:=some 62) (v:= ?_) (a':= ?_) #[true,true,true,true,true,true,true,false,false,true,false,true,false,false,false,false] rfl rfl (dm ax.out eu.out (by kernel_rfl)) (fun _ _ _ h=>h) (Or.inl ⟨by rfl, ?_⟩) hHeld ?_ ?_
  rotate_left
  ·rintro w' ⟨s0,s1,s2,s3,s4,s5,s6,s7,s8,s9⟩
   go_simp
   with_reducible rfl
  rotate_left
  ·simp only [pG]
   rfl
  refine pz 7 63 ax ?_;refine gF (i:=10) (N:=some 66) (v:= ?_) (a':= ?_) #[true,true,true,true,true,true,true,true,false,true,true,true,false,false,false,false] rfl rfl (dm ax.out eu.out (by kernel_rfl)) (fun _ _ _ h=>h) (Or.inl ⟨by rfl, ?_⟩) hHeld ?_ ?_
  rotate_left
  ·rintro w' ⟨s0,s1,s2,s3,s4,s5,s6,s7,s8,s9⟩
   go_simp
   with_reducible rfl
  rotate_left
  ·simp only [pG]
   rfl
  refine gF (i:=12) (N:=some 68) (v:= ?_) (a':= ?_) #[true,true,true,true,true,true,true,true,false,true,true,true,true,false,false,false] rfl rfl (dm ax.out eu.out (by kernel_rfl)) (fun _ _ _ h=>h) (Or.inl ⟨by rfl, ?_⟩) hHeld ?_ ?_
  rotate_left
  ·rintro w' ⟨s0,s1,s2,s3,s4,s5,s6,s7,s8,s9⟩
   go_simp
   with_reducible rfl
  rotate_left
  ·simp only [pG]
   rfl
  refine AeD (σ:=Value×Value) 2 #[true,true,true,true,true,true,true,true,true,true,true,true,true,true,false,false] (fun s_=>[(64,s_.1),(69,s_.2)]) (fun s_ w'=>(w'.cell? ⟨fL,0,none⟩=some (.int .u8 aU) /\ w'.cell? ⟨fL,1,none⟩=some (.int .u8 bh) /\ w'.cell? ⟨fL,2,none⟩=some (.int .u8 bn) /\ w'.cell? ⟨fL,3,none⟩=some (.int .u16 bu) /\ w'.cell? ⟨fL,4,none⟩=some (.int .u8 dP) /\ w'.cell? ⟨fL,5,none⟩=some (.int .u16 dR) /\ w'.cell? ⟨fL,6,none⟩=some (.int .u32 dX) /\ w'.cell? ⟨fL,7,none⟩=some (.int .u32 dY) /\ w'.cell? ⟨fL,8,none⟩=some (.slice jq bH.length jr) /\ w'.cell? ⟨fL,9,none⟩=some (.slice js cE.length ju)) /\ (Kd.R (Kd.int .u8) 5 w' w.heap.size (fun k_=>some k_≠(s_.2:Value).ownBlock) s_.1 zj) /\ (Kd.R (Kd.int .u8) 5 w' w.heap.size (fun k_=>some k_≠(s_.1:Value).ownBlock) s_.2 uH) /\ (w'.heap[fL]?=some (.cells #[.int .u8 aU,.int .u8 bh,.int .u8 bn,.int .u16 bu,.int .u8 dP,.int .u16 dR,.int .u32 dX,.int .u32 dY,.slice jq bH.length jr,.slice js cE.length ju] 73 (0,0))) /\ (Below w.heap.size w w')) ?_ ?_
  rotate_left
  ·intro Zo
   refine Am6 (i:=8) (j:=13) (Ni:=some 64) (Nj:=some 69) #[true,true,true,true,true,true,true,true,true,true,true,true,true,false,false,false] #[true,true,true,true,true,true,true,true,false,true,true,true,true,true,false,false] rfl rfl rfl rfl (Aaj ax.out (by kernel_rfl)) (by decide) (by decide) (fun K hK=> ?_) (fun K hK=> ?_)
   ·skip
    refine gG Try.func83 #[.slice PF Bj.length PG,.int .u16 (Go.bits .or .u16 (IntKind.u16.wrap ((IntKind.u16.wrap (dP))*8192)) dR)] ?_
    with_reducible refine (bp.calls (fun k_=>some k_=(.slice PF Bj.length PG:Value).ownBlock) (.slice PF Bj.length PG) Bj (Go.bits .or .u16 (IntKind.u16.wrap ((IntKind.u16.wrap (dP))*8192)) dR) zj w _ ?aE ?aG Qq.out).mono ?_
    (case aE=>exact bz HB)
    (case aG=>exact Kd.kF rfl rM.out)
    rintro e w37 ⟨Ku,rfl,gC,hb,hkp⟩;refine ⟨_,rfl, ?_⟩;have aH:=aa.mk (ja (kz aV) hkp (fun hs_=>(fun e_=>(Kd.nk rM.out aV.out (by decide)) e_) hs_));have aK:=aa.mk (Kd.dA (ok':=fun k_=>True) gC (fun k_ mo=>trivial));have bt:=aa.mk (hb);clear aV;clear HB;clear rM;have aV:=aH;have xD:=aK;have HB:=bt;clear aH aK bt
    (try clear hb)
    (try clear hkp)
    (try clear gC)
    refine hK.out _ _ ⟨cz aV.out 0 rfl,cz aV.out 1 rfl,cz aV.out 2 rfl,cz aV.out 3 rfl,cz aV.out 4 rfl,cz aV.out 5 rfl,cz aV.out 6 rfl,cz aV.out 7 rfl,cz aV.out 8 rfl,cz aV.out 9 rfl⟩ (fun hHeld=> ?_);clear hK K;refine nz 64 ?_;refine oz 13 (some 69) ax (fun K hK=> ?_)
    refine Kd.qm (Kd.int .u8) _ 5 ?hg (N:=69) ?hd (xs:=([bh,bn,0,0]:List Int)) (inner:=[.int .u8 bh,.int .u8 bn,.int .u8 0,.int .u8 0]) (ok:=fun _=>True) (qW:=fun _=>True) ?hr ?hp (fun _ hk=>hk) trivial (Below.refl _ _) (Nat.le_refl _) (by simp) ?_;(case hd=>rfl);(case hg=>rfl);(case hr=>first|(go_simp;done)|(go_simp;rfl));(case hp=>exact (cD.one (show Kd.M (Kd.int .u8) _ _ _ bh [.int .u8 bh] from rfl) (cD.one (show Kd.M (Kd.int .u8) _ _ _ bn [.int .u8 bn] from rfl) (cD.one (show Kd.M (Kd.int .u8) _ _ _ 0 [.int .u8 0] from rfl) (cD.one (show Kd.M (Kd.int .u8) _ _ _ 0 [.int .u8 0] from rfl) (cD.none _ _))))));intro Mr w38 PI hb fT iN;clear fT iN
    (first|rw [<- Oh.out] at PI|(simp only [Int.reduceToNat] at PI;rw [<- Oh.out] at PI))
    have aH:=aa.mk (Kd.mQ (Kd.rz xD) (Kd.j3 PI) hb);have aK:=aa.mk (Kd.bP (Kd.qZ PI (Kd.ox (Kd.rz xD))) (af (bz HB)));have bt:=aa.mk (bq (kz aV) hb);have cC:=aa.mk (au (bz HB) hb);clear xD;clear aV;clear HB;have xD:=aH;have iv:=aK;have aV:=bt;have HB:=cC;clear aH aK bt cC;clear hb PI;refine hK.out _ _ ⟨cz aV.out 0 rfl,cz aV.out 1 rfl,cz aV.out 2 rfl,cz aV.out 3 rfl,cz aV.out 4 rfl,cz aV.out 5 rfl,cz aV.out 6 rfl,cz aV.out 7 rfl,cz aV.out 8 rfl,cz aV.out 9 rfl⟩ (fun hHeld=> ?_);clear hK K;refine nz 69 ?_
    exact MX (by simp only [AQ,Act.put,List.setIfInBounds_toArray,List.set_cons_zero,List.set_cons_succ]) (Zo (Ku,Mr) _ ⟨hHeld,(by (with_reducible repeat (first|apply Kd.fg|apply Kd.eV|apply Kd.fj));exact Kd.dA xD.out (fun _ hk=>hk.2)),(by (with_reducible repeat (first|apply Kd.fg|apply Kd.eV|apply Kd.fj));exact Kd.dA iv.out (fun _ hk=>hk.2)),(kz aV),(bz HB)⟩)
   ·skip
    refine Kd.qm (Kd.int .u8) _ 5 ?hg (N:=69) ?hd (xs:=([bh,bn,0,0]:List Int)) (inner:=[.int .u8 bh,.int .u8 bn,.int .u8 0,.int .u8 0]) (ok:=fun _=>True) (qW:=fun _=>True) ?hr ?hp (fun _ hk=>hk) trivial (Below.refl _ _) (Nat.le_refl _) (by simp) ?_;(case hd=>rfl);(case hg=>rfl);(case hr=>first|(go_simp;done)|(go_simp;rfl));(case hp=>exact (cD.one (show Kd.M (Kd.int .u8) _ _ _ bh [.int .u8 bh] from rfl) (cD.one (show Kd.M (Kd.int .u8) _ _ _ bn [.int .u8 bn] from rfl) (cD.one (show Kd.M (Kd.int .u8) _ _ _ 0 [.int .u8 0] from rfl) (cD.one (show Kd.M (Kd.int .u8) _ _ _ 0 [.int .u8 0] from rfl) (cD.none _ _))))));intro Mr w37 PJ hb fT iN;clear fT iN
    (first|rw [<- Oh.out] at PJ|(simp only [Int.reduceToNat] at PJ;rw [<- Oh.out] at PJ))
    have aH:=aa.mk (Kd.mQ (Kd.rz rM) (Kd.j3 PJ) hb);have aK:=aa.mk (Kd.bP (Kd.qZ PJ (Kd.ox (Kd.rz rM))) (af (bz HB)));have bt:=aa.mk (bq (kz aV) hb);have cC:=aa.mk (au (bz HB) hb);clear rM;clear aV;clear HB;have rM:=aH;have iv:=aK;have aV:=bt;have HB:=cC;clear aH aK bt cC;clear hb PJ;refine hK.out _ _ ⟨cz aV.out 0 rfl,cz aV.out 1 rfl,cz aV.out 2 rfl,cz aV.out 3 rfl,cz aV.out 4 rfl,cz aV.out 5 rfl,cz aV.out 6 rfl,cz aV.out 7 rfl,cz aV.out 8 rfl,cz aV.out 9 rfl⟩ (fun hHeld=> ?_);clear hK K;refine nz 69 ?_;refine oz 8 (some 64) ax (fun K hK=> ?_);refine gG Try.func83 #[.slice PF Bj.length PG,.int .u16 (Go.bits .or .u16 (IntKind.u16.wrap ((IntKind.u16.wrap (dP))*8192)) dR)] ?_
    with_reducible refine (bp.calls (fun k_=>some k_=(.slice PF Bj.length PG:Value).ownBlock) (.slice PF Bj.length PG) Bj (Go.bits .or .u16 (IntKind.u16.wrap ((IntKind.u16.wrap (dP))*8192)) dR) zj w _ ?aE ?aG Qq.out).mono ?_
    (case aE=>exact bz HB)
    (case aG=>exact Kd.kF rfl rM.out)
    rintro e w39 ⟨Ku,rfl,gC,hb,hkp⟩;refine ⟨_,rfl, ?_⟩;have aH:=aa.mk (ja (kz aV) hkp (fun hs_=>(fun e_=>(Kd.nk rM.out aV.out (by decide)) e_) hs_));have aK:=aa.mk (Kd.dA (ok':=fun k_=>some k_≠(Ku:Value).ownBlock) (Kd.xP (iv.out) hkp (fun k_ mo hs_=>(mo.2) hs_)) (fun k_ mo=>fun e_=>Or.elim (gC.1 k_ e_.symm) (fun hs_=>mo.2.1 hs_) (fun BN=>Nat.not_le.2 mo.2.2 BN)));have bt:=aa.mk (Kd.dA (ok':=fun k_=>some k_≠(Mr:Value).ownBlock) gC (fun k_ mo=>Or.elim mo (fun hs_=>fun e_=>(((iv.out).1 k_ e_.symm).2) hs_) (fun BN=>(Kd.mG (Kd.ox (Kd.rz iv)) k_ BN))));have cC:=aa.mk (hb);clear aV;clear iv;clear HB;clear rM;have aV:=aH;have iv:=aK;have xD:=bt;have HB:=cC;clear aH aK bt cC
    (try clear hb)
    (try clear hkp)
    (try clear gC)
    refine hK.out _ _ ⟨cz aV.out 0 rfl,cz aV.out 1 rfl,cz aV.out 2 rfl,cz aV.out 3 rfl,cz aV.out 4 rfl,cz aV.out 5 rfl,cz aV.out 6 rfl,cz aV.out 7 rfl,cz aV.out 8 rfl,cz aV.out 9 rfl⟩ (fun hHeld=> ?_);clear hK K;refine nz 64 ?_;exact MX (by simp only [AQ,Act.put,List.setIfInBounds_toArray,List.set_cons_zero,List.set_cons_succ]) (Zo (Ku,Mr) _ ⟨hHeld,(Kd.rz xD),(Kd.rz iv),(kz aV),(bz HB)⟩)
  rintro ⟨Ku,Mr⟩ Du ⟨hS_,h0_,h1_,h2_,h3_⟩;have aH:aa (Kd.R (Kd.int .u8) 5 Du w.heap.size (fun k_=>some k_≠(Mr:Value).ownBlock) Ku zj):=⟨h0_⟩
  have aK:aa (Kd.R (Kd.int .u8) 5 Du w.heap.size (fun k_=>some k_≠(Ku:Value).ownBlock) Mr uH):=⟨h1_⟩
  have bt:aa (Du.heap[fL]?=some (.cells #[.int .u8 aU,.int .u8 bh,.int .u8 bn,.int .u16 bu,.int .u8 dP,.int .u16 dR,.int .u32 dX,.int .u32 dY,.slice jq bH.length jr,.slice js cE.length ju] 73 (0,0))):=⟨h2_⟩
  have cC:aa (Below w.heap.size w Du):=⟨h3_⟩
  clear rM;clear aV;clear HB;clear h0_ h1_ h2_ h3_;have xD:=aH;have iv:=aK;have aV:=bt;have HB:=cC;clear aH aK bt cC;have hHeld:Du.cell? ⟨fL,0,none⟩=some (.int .u8 aU) /\ Du.cell? ⟨fL,1,none⟩=some (.int .u8 bh) /\ Du.cell? ⟨fL,2,none⟩=some (.int .u8 bn) /\ Du.cell? ⟨fL,3,none⟩=some (.int .u16 bu) /\ Du.cell? ⟨fL,4,none⟩=some (.int .u8 dP) /\ Du.cell? ⟨fL,5,none⟩=some (.int .u16 dR) /\ Du.cell? ⟨fL,6,none⟩=some (.int .u32 dX) /\ Du.cell? ⟨fL,7,none⟩=some (.int .u32 dY) /\ Du.cell? ⟨fL,8,none⟩=some (.slice jq bH.length jr) /\ Du.cell? ⟨fL,9,none⟩=some (.slice js cE.length ju):=hS_;obtain ⟨BZ,Ca,RU⟩:=Kd.dn iv.out
  (first|subst RU|(injection RU with mT ry mU;have rA:=mT.symm;have rB:=mU.symm;clear mT ry mU;subst rA;subst rB))
  refine MX (a':= ?_) ?_ ?_
  rotate_left
  ·simp only [AQ,Act.put,List.setIfInBounds_toArray,List.set_cons_zero,List.set_cons_succ]
   rfl
  refine oz 14 (some 70) ax (fun K hK=> ?_);refine Kd.jw (Kd.int .u8) (w0:=w) w.heap.size (by rfl) (.tmp 64) (.tmp 69) 23 5 (.int .u8 0) 1 rfl Try.underlying23 fY rfl (by decide) (by omega) Ku zj uH _ _ _ (fun k_=>some k_≠(.slice BZ uH.length Ca:Value).ownBlock) (fun _=>False) rfl rfl ?aO ?aR (fun _ _ h=>h) (fun _ h=>h.elim) ?aF ?aB ?aS ?aL ?_
  (case aR=>repeat (first|exact (Kd.ay iv.out).2.2|(with_reducible refine Kd.fH ?_ _)|(with_reducible refine Kd.fz ?_ _)|(with_reducible refine Kd.gQ ?_)))
  (case aB=>exact bz HB)
  (case aF=>exact (fun k_ hk=>Kd.mG (Kd.ox (Kd.rz iv)) k_ hk))
  (case aO=>exact (Kd.rz xD))
  (case aS=>exact (af (bz HB)))
  (case aL=>have:=Aix.out;omega)
  intro Axh w41 ho hb hg hat;rw [<- Aiy.out] at ho
  have aH:=aa.mk (gW (kz aV) hg (Kd.nk xD.out aV.out (by decide)));have aK:=aa.mk (Kd.nS (ok:=(fun _=>True)) (by (with_reducible repeat (first|apply Kd.fg|apply Kd.eV|apply Kd.fj));exact Kd.dA iv.out (fun _ hk=>⟨trivial,hk⟩)) hg hat);have bt:=aa.mk (hb);have cC:=aa.mk (ho);clear aV;clear iv;clear HB;clear xD;have aV:=aH;have iv:=aK;have HB:=bt;have BQ:=cC;clear aH aK bt cC;clear ho hb hg hat;refine hK.out _ _ ⟨cz aV.out 0 rfl,cz aV.out 1 rfl,cz aV.out 2 rfl,cz aV.out 3 rfl,cz aV.out 4 rfl,cz aV.out 5 rfl,cz aV.out 6 rfl,cz aV.out 7 rfl,cz aV.out 8 rfl,cz aV.out 9 rfl⟩ (fun hHeld=> ?_);clear hK K;refine nz 70 ?_;refine pz 15 5 ax ?_;refine dz ax ?_
  try go_wp2
  have aH:=aa.mk (Kd.fj iv.out);have aK:=aa.mk (Kd.fj BQ.out);have bt:=aa.mk (aJ aV.out);have cC:=aa.mk (bf HB.out);clear iv;clear BQ;clear aV;clear HB;have iv:=aH;have BQ:=aK;have aV:=bt;have HB:=cC;clear aH aK bt cC;obtain ⟨Ac8,Ac9,AiF⟩:=Kd.dn BQ.out
  (first|subst AiF|(injection AiF with mT ry mU;have rA:=mT.symm;have rB:=mU.symm;clear mT ry mU;subst rA;subst rB))
  refine dB (n:=11) (S:=fun w'=>w'.cell? ⟨fL,0,none⟩=some (.int .u8 aU) /\ w'.cell? ⟨fL,1,none⟩=some (.int .u8 bh) /\ w'.cell? ⟨fL,2,none⟩=some (.int .u8 bn) /\ w'.cell? ⟨fL,3,none⟩=some (.int .u16 bu) /\ w'.cell? ⟨fL,4,none⟩=some (.int .u8 dP) /\ w'.cell? ⟨fL,5,none⟩=some (.int .u16 dR) /\ w'.cell? ⟨fL,6,none⟩=some (.int .u32 dX) /\ w'.cell? ⟨fL,7,none⟩=some (.int .u32 dY) /\ w'.cell? ⟨fL,8,none⟩=some (.slice jq bH.length jr) /\ w'.cell? ⟨fL,9,none⟩=some (.slice js cE.length ju)) (ds:=[]) #[false,false,false,false,false,false,false,false,false,false,false] (by kernel_rfl) rfl rfl ⟨cz aV.out 0 rfl,cz aV.out 1 rfl,cz aV.out 2 rfl,cz aV.out 3 rfl,cz aV.out 4 rfl,cz aV.out 5 rfl,cz aV.out 6 rfl,cz aV.out 7 rfl,cz aV.out 8 rfl,cz aV.out 9 rfl⟩ (fun hHeld=> ?_);refine bF aI.AcX aI.TJ (fun ax eu=> ?_)
  generalize w41.drew=w43 at iv BQ aV HB hHeld|-
  refine pz 0 71 ax ?_;refine pz 1 72 ax ?_;refine pz 4 75 ax ?_;refine pz 7 78 ax ?_;refine gF (i:=2) (N:=some 73) (v:= ?_) (a':= ?_) #[true,true,true,false,true,false,false,true,false,false,false] rfl rfl (dm ax.out eu.out (by kernel_rfl)) (fun _ _ _ h=>h) (Or.inl ⟨by rfl, ?_⟩) hHeld ?_ ?_
  rotate_left
  ·rintro w' ⟨s0,s1,s2,s3,s4,s5,s6,s7,s8,s9⟩
   go_simp
   with_reducible rfl
  rotate_left
  ·simp only [pG]
   rfl
  refine gF (i:=5) (N:=some 76) (v:= ?_) (a':= ?_) #[true,true,true,false,true,true,false,true,false,false,false] rfl rfl (dm ax.out eu.out (by kernel_rfl)) (fun _ _ _ h=>h) (Or.inl ⟨by rfl, ?_⟩) hHeld ?_ ?_
  rotate_left
  ·rintro w' ⟨s0,s1,s2,s3,s4,s5,s6,s7,s8,s9⟩
   go_simp
   with_reducible rfl
  rotate_left
  ·simp only [pG]
   rfl
  refine gF (i:=8) (N:=some 79) (v:= ?_) (a':= ?_) #[true,true,true,false,true,true,false,true,true,false,false] rfl rfl (dm ax.out eu.out (by kernel_rfl)) (fun _ _ _ h=>h) (Or.inl ⟨by rfl, ?_⟩) hHeld ?_ ?_
  rotate_left
  ·rintro w' ⟨s0,s1,s2,s3,s4,s5,s6,s7,s8,s9⟩
   go_simp
   with_reducible rfl
  rotate_left
  ·simp only [pG]
   rfl
  refine oz 3 (some 74) ax (fun K hK=> ?_);refine gG Try.func84 #[.slice Ac8 Xp.length Ac9,.int .u32 dX] ?_
  with_reducible refine (dM.calls (fun k_=>some k_=(.slice Ac8 Xp.length Ac9:Value).ownBlock) (.slice Ac8 Xp.length Ac9) Xp dX Eg w _ ?aE ?aG OY.out).mono ?_
  (case aE=>exact bz HB)
  (case aG=>exact Kd.kF rfl BQ.out)
  rintro e w45 ⟨Aqd,rfl,gC,hb,hkp⟩;refine ⟨_,rfl, ?_⟩;have aH:=aa.mk (ja (kz aV) hkp (fun hs_=>(fun e_=>(Kd.nk BQ.out aV.out (by decide)) e_) hs_));have aK:=aa.mk (Kd.dA (ok':=fun k_=>some k_≠(Aqd:Value).ownBlock) (Kd.xP (iv.out) hkp (fun k_ mo hs_=>(mo.2) hs_)) (fun k_ mo=>fun e_=>Or.elim (gC.1 k_ e_.symm) (fun hs_=>mo.2.1 hs_) (fun BN=>Nat.not_le.2 mo.2.2 BN)));have bt:=aa.mk (Kd.dA (ok':=fun k_=>some k_≠(.slice BZ uH.length Ca:Value).ownBlock) gC (fun k_ mo=>Or.elim mo (fun hs_=>fun e_=>(((iv.out).1 k_ e_.symm).2) hs_) (fun BN=>(Kd.mG (Kd.ox (Kd.rz iv)) k_ BN))));have cC:=aa.mk (hb);clear aV;clear iv;clear HB;clear BQ;have aV:=aH;have iv:=aK;have Oj:=bt;have HB:=cC;clear aH aK bt cC
  (try clear hb)
  (try clear hkp)
  (try clear gC)
  obtain ⟨Ada,Adb,AiG⟩:=Kd.dn Oj.out
  (first|subst AiG|(injection AiG with mT ry mU;have rA:=mT.symm;have rB:=mU.symm;clear mT ry mU;subst rA;subst rB))
  refine hK.out _ _ ⟨cz aV.out 0 rfl,cz aV.out 1 rfl,cz aV.out 2 rfl,cz aV.out 3 rfl,cz aV.out 4 rfl,cz aV.out 5 rfl,cz aV.out 6 rfl,cz aV.out 7 rfl,cz aV.out 8 rfl,cz aV.out 9 rfl⟩ (fun hHeld=> ?_);clear hK K;refine nz 74 ?_;refine oz 6 (some 77) ax (fun K hK=> ?_);refine gG Try.func84 #[.slice Ada Eg.length Adb,.int .u32 dY] ?_
  with_reducible refine (dM.calls (fun k_=>some k_=(.slice Ada Eg.length Adb:Value).ownBlock) (.slice Ada Eg.length Adb) Eg dY Bk w _ ?aE ?aG A19.out).mono ?_
  (case aE=>exact bz HB)
  (case aG=>exact Kd.kF rfl Oj.out)
  rintro e w47 ⟨AiH,rfl,gC,hb,hkp⟩;refine ⟨_,rfl, ?_⟩;have aH:=aa.mk (ja (kz aV) hkp (fun hs_=>(fun e_=>(Kd.nk Oj.out aV.out (by decide)) e_) hs_));have aK:=aa.mk (Kd.dA (ok':=fun k_=>some k_≠(AiH:Value).ownBlock) (Kd.xP (iv.out) hkp (fun k_ mo hs_=>(mo) hs_)) (fun k_ mo=>fun e_=>Or.elim (gC.1 k_ e_.symm) (fun hs_=>mo.2.1 hs_) (fun BN=>Nat.not_le.2 mo.2.2 BN)));have bt:=aa.mk (Kd.dA (ok':=fun k_=>some k_≠(.slice BZ uH.length Ca:Value).ownBlock) gC (fun k_ mo=>Or.elim mo (fun hs_=>fun e_=>(((iv.out).1 k_ e_.symm)) hs_) (fun BN=>(Kd.mG (Kd.ox (Kd.rz iv)) k_ BN))));have cC:=aa.mk (hb);clear aV;clear iv;clear HB;clear Oj;have aV:=aH;have iv:=aK;have TW:=bt;have HB:=cC;clear aH aK bt cC
  (try clear hb)
  (try clear hkp)
  (try clear gC)
  refine hK.out _ _ ⟨cz aV.out 0 rfl,cz aV.out 1 rfl,cz aV.out 2 rfl,cz aV.out 3 rfl,cz aV.out 4 rfl,cz aV.out 5 rfl,cz aV.out 6 rfl,cz aV.out 7 rfl,cz aV.out 8 rfl,cz aV.out 9 rfl⟩ (fun hHeld=> ?_);clear hK K;refine nz 77 ?_;refine oz 9 (some 80) ax (fun K hK=> ?_);refine Kd.jw (Kd.int .u8) (w0:=w) w.heap.size (by rfl) (.tmp 77) (.tmp 79) 23 5 (.int .u8 0) 1 rfl Try.underlying23 fY rfl (by decide) (by omega) AiH Bk bH _ _ _ (fun k_=>some k_≠(.slice BZ uH.length Ca:Value).ownBlock) (fun _=>False) rfl rfl ?aO ?aR (fun _ _ h=>h) (fun _ h=>h.elim) ?aF ?aB ?aS ?aL ?_
  (case aR=>exact Kd.aW BI.out (bz HB))
  (case aB=>exact bz HB)
  (case aF=>exact (fun k_ hk=>Kd.mG (Kd.ox (Kd.rz iv)) k_ hk))
  (case aO=>exact (Kd.rz TW))
  (case aS=>exact (af (bz HB)))
  (case aL=>have:=Sn.out;omega)
  intro Axi w48 ho hb hg hat;rw [<- Aiz.out] at ho
  have aH:=aa.mk (gW (kz aV) hg (Kd.nk TW.out aV.out (by decide)));have aK:=aa.mk (Kd.nS (ok:=(fun _=>True)) (by (with_reducible repeat (first|apply Kd.fg|apply Kd.eV|apply Kd.fj));exact Kd.dA iv.out (fun _ hk=>⟨trivial,hk⟩)) hg hat);have bt:=aa.mk (hb);have cC:=aa.mk (ho);clear aV;clear iv;clear HB;clear TW;have aV:=aH;have iv:=aK;have HB:=bt;have ot:=cC;clear aH aK bt cC;clear ho hb hg hat;refine hK.out _ _ ⟨cz aV.out 0 rfl,cz aV.out 1 rfl,cz aV.out 2 rfl,cz aV.out 3 rfl,cz aV.out 4 rfl,cz aV.out 5 rfl,cz aV.out 6 rfl,cz aV.out 7 rfl,cz aV.out 8 rfl,cz aV.out 9 rfl⟩ (fun hHeld=> ?_);clear hK K;refine nz 80 ?_;refine pz 10 5 ax ?_;refine dz ax ?_;obtain ⟨Aqe,Kv,Aqf⟩:=Kd.dn ot.out
  subst Aqf
  try go_wp2_with (first|((with_reducible refine az (f:=85) rfl ?_);refine gL 82 Try.func85 #[.slice Aqe lW.length Kv] ?_;(with_reducible refine (iK.calls Ph _ _ lW uo _ ?aE ?aG A21.out).mono ?_);(case aE=>repeat (first|exact (Kd.ay ot.out).2.2|(with_reducible refine Kd.fH ?_ _)|(with_reducible refine Kd.fz ?_ _)|(with_reducible refine Kd.gQ ?_)));(case aG=>exact (Kd.ay ot.out).2.1);rintro e w50 ⟨rfl,hb⟩;refine ⟨_,rfl, ?_⟩;have aH:=aa.mk (Kd.fX (Kd.rz iv) hb);have aK:=aa.mk (Kd.fX (Kd.rz ot) hb);have bt:=aa.mk (bq (kz aV) hb);have cC:=aa.mk (au (bz HB) hb);clear iv;clear ot;clear aV;clear HB;have iv:=aH;have ot:=aK;have aV:=bt;have HB:=cC;clear aH aK bt cC;(try clear hb);(try clear hb2);(try clear hk);(try clear hi);have p23:0<=(10:Int):=(by omega);have q23:(10:Int)<((lW.length:Int):Int):=gA;have Axj:(10<lW.length)=True:=eq_true (by omega);obtain ⟨Eh,WO,TL,AiI,Aqi,Axk,AiJ⟩:=Kd.ue ot.out (by omega);(first|cases TL|(injection TL with Wq en_ ec_;(first|subst Wq|(injection Wq with Wq;subst Wq));subst ec_;clear en_));have AiK:=aa.mk AiI;have Axl:=aa.mk AiJ;clear AiI Aqi AiJ;obtain ⟨TX,TY⟩:=Kd.lg 0 ot.out (10:Int) p23 q23;(try rw [show ((10:Int)).toNat=10 from rfl] at TX);(try simp only [Nat.reduceMul,Nat.zero_mul,Nat.zero_add,Nat.reduceAdd] at TX);(try rw [show ((10:Int)).toNat=10 from rfl] at TY);(try simp only [Nat.reduceMul,Nat.zero_mul,Nat.zero_add,Nat.reduceAdd] at TY);replace p23:=eq_true p23;replace q23:=eq_true q23;obtain ⟨Zp,Zq⟩:=Kd.lg 0 ot.out (10:Int) (by omega) gA;(try simp only [Int.reduceToNat,Int.toNat_zero,Int.toNat_ofNat,Nat.reduceMul,Nat.zero_mul,Nat.zero_add] at Zp Zq);(try rw [show ((10:Int)).toNat=10 from rfl] at Zp);(try rw [show ((10:Int)).toNat=10 from rfl] at Zq);have Adc:=Kd.AO ot.out (10:Int) ((uo / 256) % 256))|((with_reducible refine uP (t:=5) (p:=90) rfl ?_);refine sZ (t:=5) (p:=90) (v:= ?Aqj) (w1:=(w50.setCell ⟨Eh,(10:Int).toNat,none⟩ (.int .u8 ((uo / 256) % 256)))) ?hg ?ho ?hn ?hr ?_;(case ho=>rfl);(case hg=>rfl);(case hn=>rfl);(case hr=>first|(go_simp;done)|(go_simp;rfl));intro w52 hw;have hg:w50.grownBy w52 (some Eh):=(by rw [hw];exact Adc.2);have Te:Kd.R (Kd.int .u8) 5 w52 w.heap.size (fun k_=>some k_≠(.slice BZ uH.length Ca:Value).ownBlock) (.slice (some ⟨Eh,0,none⟩) lW.length Kv) AiA:=(by rw [hw,AiB.out];exact Adc.1);clear Adc;have aH:=aa.mk (gW (kz aV) hg (Kd.nk ot.out aV.out (by decide)));have aK:=aa.mk (Kd.nS (v:=(.slice (some ⟨Eh,0,none⟩) lW.length Kv)) (v1:=(.slice (some ⟨Eh,0,none⟩) lW.length Kv)) (ok:=(fun _=>True)) (Kd.rz iv) hg (.inl rfl));have bt:=aa.mk (Te);have cC:=aa.mk ((by rw [hw];exact ux (HB.out) AiK.out:Below w.heap.size w w52));clear aV;clear iv;clear ot;clear HB;have aV:=aH;have iv:=aK;have ot:=bt;have HB:=cC;clear aH aK bt cC;clear hg hw Te;have p25:0<=(11:Int):=(by omega);have q25:(11:Int)<((lW.length:Int):Int):=gA;have Axm:(11<lW.length)=True:=eq_true (by omega);obtain ⟨TZ,Ua⟩:=Kd.lg 0 ot.out (11:Int) p25 q25;(try rw [show ((11:Int)).toNat=11 from rfl] at TZ);(try simp only [Nat.reduceMul,Nat.zero_mul,Nat.zero_add,Nat.reduceAdd] at TZ);(try rw [show ((11:Int)).toNat=11 from rfl] at Ua);(try simp only [Nat.reduceMul,Nat.zero_mul,Nat.zero_add,Nat.reduceAdd] at Ua);replace p25:=eq_true p25;replace q25:=eq_true q25;obtain ⟨Zr,Zs⟩:=Kd.lg 0 ot.out (11:Int) (by omega) gA;(try simp only [Int.reduceToNat,Int.toNat_zero,Int.toNat_ofNat,Nat.reduceMul,Nat.zero_mul,Nat.zero_add] at Zr Zs);(try rw [show ((11:Int)).toNat=11 from rfl] at Zr);(try rw [show ((11:Int)).toNat=11 from rfl] at Zs);have Ade:=Kd.AO ot.out (11:Int) ((uo) % 256))|((with_reducible refine uP (t:=5) (p:=91) rfl ?_);refine sZ (t:=5) (p:=91) (v:= ?Aqm) (w1:=(w52.setCell ⟨Eh,(11:Int).toNat,none⟩ (.int .u8 ((uo) % 256)))) ?hg ?ho ?hn ?hr ?_;(case ho=>rfl);(case hg=>rfl);(case hn=>rfl);(case hr=>first|(go_simp;done)|(go_simp;rfl));intro PK hw;have hg:w52.grownBy PK (some Eh):=(by rw [hw];exact Ade.2);have Te:Kd.R (Kd.int .u8) 5 PK w.heap.size (fun k_=>some k_≠(.slice BZ uH.length Ca:Value).ownBlock) (.slice (some ⟨Eh,0,none⟩) lW.length Kv) uq:=(by rw [hw,AiC.out];exact Ade.1);clear Ade;have aH:=aa.mk (gW (kz aV) hg (Kd.nk ot.out aV.out (by decide)));have aK:=aa.mk (Kd.nS (v:=(.slice (some ⟨Eh,0,none⟩) lW.length Kv)) (v1:=(.slice (some ⟨Eh,0,none⟩) lW.length Kv)) (ok:=(fun _=>True)) (Kd.rz iv) hg (.inl rfl));have bt:=aa.mk (Te);have cC:=aa.mk ((by rw [hw];exact ux (HB.out) AiK.out:Below w.heap.size w PK));clear aV;clear iv;clear ot;clear HB;have aV:=aH;have iv:=aK;have ot:=bt;have HB:=cC;clear aH aK bt cC;clear hg hw Te;have AlD:PK.cell? ⟨fL,0,none⟩=some (.int .u8 aU):=cz aV.out 0 rfl;have AlE:PK.cell? ⟨fL,1,none⟩=some (.int .u8 bh):=cz aV.out 1 rfl;have AlF:PK.cell? ⟨fL,2,none⟩=some (.int .u8 bn):=cz aV.out 2 rfl;have AlG:PK.cell? ⟨fL,3,none⟩=some (.int .u16 bu):=cz aV.out 3 rfl;have AlH:PK.cell? ⟨fL,4,none⟩=some (.int .u8 dP):=cz aV.out 4 rfl;have AlI:PK.cell? ⟨fL,5,none⟩=some (.int .u16 dR):=cz aV.out 5 rfl;have AlJ:PK.cell? ⟨fL,6,none⟩=some (.int .u32 dX):=cz aV.out 6 rfl;have AlK:PK.cell? ⟨fL,7,none⟩=some (.int .u32 dY):=cz aV.out 7 rfl;have AlL:PK.cell? ⟨fL,8,none⟩=some (.slice jq bH.length jr):=cz aV.out 8 rfl;have AlM:PK.cell? ⟨fL,9,none⟩=some (.slice js cE.length ju):=cz aV.out 9 rfl;have AlN:=ae aV.out 0;have AlO:=ae aV.out 1;have AlP:=ae aV.out 2;have AlQ:=ae aV.out 3;have AlR:=ae aV.out 4;have AlS:=ae aV.out 5;have AlT:=ae aV.out 6;have AlU:=ae aV.out 7;have AlV:=ae aV.out 8;have AlW:=ae aV.out 9)|((with_reducible refine fB (b:= .append) (xs:= #[.tmp 92,.tmp 94]) rfl ?_);(try (refine eP (by rfl) ?_;dsimp only));at_builtin;refine Kd.gz (Kd.int .u8) (w0:=w) w.heap.size rfl (.tmp 92) (.tmp 94) 23 5 (.int .u8 0) 1 rfl Try.underlying23 fY rfl (by decide) (by omega) (.slice (some ⟨Eh,0,none⟩) lW.length Kv) uq cE _ _ _ (fun k_=>some k_≠(.slice BZ uH.length Ca:Value).ownBlock) (fun _=>False) rfl rfl ?aO ?aR (fun _ _ h=>h) (fun _ h=>h.elim) ?aF ?aB ?aS ?aL ?_;(case aR=>exact Kd.aW BJ.out (bz HB));(case aB=>exact bz HB);(case aF=>exact (fun k_ hk=>Kd.mG (Kd.ox (Kd.rz iv)) k_ hk));(case aO=>exact (Kd.rz ot));(case aS=>exact (af (bz HB)));(case aL=>have:=AiD.out;omega);intro Axn w56 ho hb hg hat;rw [<- AiE.out] at ho;have aH:=aa.mk (gW (kz aV) hg (Kd.nk ot.out aV.out (by decide)));have aK:=aa.mk (Kd.nS (ok:=(fun _=>True)) (Kd.rz iv) hg hat);have bt:=aa.mk (hb);have cC:=aa.mk (ho);clear aV;clear iv;clear HB;clear ot;have aV:=aH;have iv:=aK;have HB:=bt;have AiM:=cC;clear aH aK bt cC;clear ho hb hg hat))
  go_ret2
  exact ⟨_,by first|rfl|(simp [aj,ak]<;>rfl)|(simp [*,aj,ak]<;>rfl),by (with_reducible repeat (first|apply Kd.fg|apply Kd.eV|apply Kd.fj));exact Kd.dA AiM.out (fun _ hk=>trivial),bz HB⟩
def bA.sw (p6 pr:Int):Int×Int×Int×Int×List Int:=
 if p6.tmod 16=0 then (p6.tdiv 16 % 256 % 3,pr,2,0,[])
 else if p6.tmod 16=1 then (64,pr,1,0,[])
 else if p6.tmod 16=2 then (64,pr,2,5,[])
 else if p6.tmod 16=3 then (64,47,2,0,[])
 else if p6.tmod 16=4 then (64,pr,2,0,[1,1,1,1])
 else (64,pr,2,0,[])
def bA.sd (k:Nat) (p1 p2 side n:Int) (s0 d0:Int):Option (Int×Int):=
 if side=0 then some (s0,d0) else (bQ.f k p1 (n % 256)).bind fun s=>(bQ.f k ((5+p2.tmod 3) % 256) (n % 256)).bind fun d=>some (s,d)
def bA.er (k:Nat) (pr s d fr tp p5 p7 p8:Int) (x:List Int):Option (Int×List Int):=
 if p7.tmod 5=4 then (l9.f k pr d s tp fr p5 p8).bind fun y=>(aI.f k 0 3 pr 0 0 0 d s [] y).bind fun q=>(fE.f k (rd [3,11,12] (p8.tmod 3)) 0 0 0 q.1).bind fun c=>(bG.f (rd [3,11,12] (p8.tmod 3)) 0 c 0 q.1).bind fun m=>some (1,m.1)
 else some (pr,x)
def bA.sp (p8 p9:Int) (b:List Int):List Int:=
 if p9.tmod 8=7 then (if 0<b.length then b.set (p9.tmod (b.length:Int)).toNat (Go.bits .xor .u8 (rd b (p9.tmod (b.length:Int))) (IntKind.u8.wrap (2 ^ (p8.tmod 8).toNat))) else b) else b
def bA.f (k:Nat) (p0 p1 p2 p3 p4 p5 p6 p7 p8 p9 side n:Int):Option (List Int):=
 (kY.f p1).bind fun s0=>(bQ.f k p2 (n % 256)).bind fun d0=>(bA.sd k p1 p2 side n s0 d0).bind fun sd=>
 (l7.f p0).bind fun pr=>(iZ.f p3).bind fun fr=>(iZ.f p4).bind fun tp=>(l9.f k pr sd.1 sd.2 fr tp p5 p8).bind fun x=>
 (bA.er k pr sd.1 sd.2 fr tp p5 p7 p8 x).bind fun px=>
 (aI.f k 0 (bA.sw p6 px.1).1 (bA.sw p6 px.1).2.1 (IntKind.u16.wrap p8) (bA.sw p6 px.1).2.2.1 (bA.sw p6 px.1).2.2.2.1 sd.1 sd.2 (bA.sw p6 px.1).2.2.2.2 px.2).bind fun b=>some (bA.sp p8 p9 b.1)
theorem Ei {K:Act ->World ->Prop} {Q:Exit ->Act ->World ->Prop} {e:Exit} {a:Act} {w:World} {n:Nat} (h:∀ W,Below w.heap.size w W ->Exit.then K Q e a W):Exit.then K Q e a (w.drewN n):=h _ (dS (Below.refl _ _) n)
theorem Adf {w:World} {g:Nat} (h:w.heap[g]?=some (.cells #[.int .u8 3,.int .u8 11,.int .u8 12] 5 (0,0))) (i:Int) (h0:0<=i) (h1:i<3):w.cell? ⟨g,i.toNat,none⟩=some (.int .u8 (rd [3,11,12] i)):=by
 obtain rfl|rfl|rfl:i=0 \/ i=1 \/ i=2:=by omega
 all_goals exact (aN h _).trans rfl
def bA.R28.T:Bool×List (List Nat×List Nat):=(true,[([],[]),([],[]),([1],[1]),([2],[2]),([],[]),([4],[4]),([3,5],[3,5]),([0,6],[0,6]),([7],[7]),([],[]),([9],[9]),([10],[10]),([11],[11]),([8,12],[8,12]),([0,6,0,1,2,3,4,5,6,7,8,9,10,11,12,13],[0,6]),([14,13,0,1,2,3,4,5,6,7,8,9,10,11,12,13],[13,14])])
theorem bA.R28.tab:gB .any (opsOf Try.f17 28)=bA.R28.T:=by kernel_rfl
theorem bA.R28.bits:cS bA.R28.T.2 [0,0,2,6,0,16,62,127,255,0,512,1536,3584,8191,16383,32767]=true:=by kernel_rfl
theorem bA.calls (k:Nat) (p0 p1 p2 p3 p4 p5 p6 p7 p8 p9 side n:Int) (r:List Int) (w:World) (hn:(0<=p8 /\ p8<=255) /\ (0<=p9 /\ p9<=255)) (h:bA.f k p0 p1 p2 p3 p4 p5 p6 p7 p8 p9 side n=some r):
  Calls Try.prog 17 #[.agg #[.int .u8 p0,.int .u8 p1,.int .u8 p2,.int .u8 p3,.int .u8 p4,.int .u8 p5,.int .u8 p6,.int .u8 p7,.int .u8 p8,.int .u8 p9],.int .i64 side,.int .i64 n] w fun e w'=>∃ oW:Value,e= .returned oW /\ Kd.R (Kd.int .u8) 5 w' w.heap.size (fun _=>True) oW r /\ Below w.heap.size w w':=by
 have Aqn:=Try.underlying25;have iW:=Try.underlying73;have oA:=Try.underlying101;have HB:=gI w;have Adg:aa ((Try.prog.info? 25).map (·.size)=some 10):=⟨by kernel_rfl⟩
 have eN:aa ((Try.prog.info? 73).map (·.size)=some 10):=⟨by kernel_rfl⟩
 have jD:aa ((Try.prog.info? 101).map (·.size)=some 5):=⟨by kernel_rfl⟩
 have HN:=aa.mk hn;have H:bA.f k p0 p1 p2 p3 p4 p5 p6 p7 p8 p9 side n=some r:=h;clear h hn;unfold bA.f at H
 obtain ⟨s0,hs0,H⟩:=bR H;obtain ⟨d0,hd0,H⟩:=bR H;obtain ⟨⟨src,dst⟩,hsd,H⟩:=bR H;obtain ⟨pr,Qx,H⟩:=bR H;obtain ⟨fr,hfr,H⟩:=bR H;obtain ⟨tp,Zt,H⟩:=bR H;obtain ⟨x,hx,H⟩:=bR H;obtain ⟨⟨Iu,x2⟩,her,H⟩:=bR H;obtain ⟨⟨b,be⟩,hbb,H⟩:=bR H;obtain rfl:=cN H;dsimp only at hx her hbb|-
 obtain ⟨⟨ttl,pr3,fl2,of2,op⟩,hsw⟩:∃ x,x=bA.sw p6 Iu:=⟨_,rfl⟩
 rw [<- hsw] at hbb
 dsimp only at hbb
 have HSW:=aa.mk hsw.symm;clear hsw;have Q1:aa (∀ W:World,Calls Try.prog 49 #[.int .u8 p1] W fun e w'=>e= .returned (.int .u32 s0) /\ bB W w'):=⟨fun W=>kY.calls p1 s0 W hs0⟩
 have Q2:aa (∀ W:World,Calls Try.prog 50 #[.int .u8 p2,.int .u8 (n % 256)] W fun e w'=>e= .returned (.int .u32 d0) /\ bB W w'):=⟨fun W=>bQ.calls k p2 (n % 256) d0 W hd0⟩
 have Q5:aa (∀ W:World,Calls Try.prog 52 #[.int .u8 p3] W fun e w'=>e= .returned (.int .u16 fr) /\ bB W w'):=⟨fun W=>iZ.calls p3 fr W hfr⟩
 have Q6:aa (∀ W:World,Calls Try.prog 52 #[.int .u8 p4] W fun e w'=>e= .returned (.int .u16 tp) /\ bB W w'):=⟨fun W=>iZ.calls p4 tp W Zt⟩
 have HSD:=aa.mk hsd;have HPR:=aa.mk Qx;have HX1:=aa.mk hx;have HER:=aa.mk her;have HBB:=aa.mk hbb;clear hs0 hd0 hsd Qx hfr Zt hx her hbb H
 go_enter Try.func17,Try.ntmps17
 go_upto_region 1 with (((with_reducible refine aA (N:=3) rfl ?_);refine Kd.bU rfl (v:= .pointer (some ⟨w.heap.size,0,none⟩)) (w1:=w.alloc (.cells #[.int .u8 p0,.int .u8 p1,.int .u8 p2,.int .u8 p3,.int .u8 p4,.int .u8 p5,.int .u8 p6,.int .u8 p7,.int .u8 p8,.int .u8 p9] 25)) (by first|(go_simp;done)|(go_simp;rfl)) ?_))
 obtain ⟨gp,zC⟩:∃ x_,x_=w.heap.size:=⟨_,rfl⟩
 have aZ:aa ((w.alloc (.cells #[.int .u8 p0,.int .u8 p1,.int .u8 p2,.int .u8 p3,.int .u8 p4,.int .u8 p5,.int .u8 p6,.int .u8 p7,.int .u8 p8,.int .u8 p9] 25)).heap[gp]?=some (.cells #[.int .u8 p0,.int .u8 p1,.int .u8 p2,.int .u8 p3,.int .u8 p4,.int .u8 p5,.int .u8 p6,.int .u8 p7,.int .u8 p8,.int .u8 p9] 25 (0,0))):=⟨by rw [zC];exact iT _ _⟩
 have lV:=aa.mk (show w.heap.size<=gp by rw [zC];exact af HB.out);rw [<- zC];clear zC;have ai:=dV (Below.refl w.heap.size w) (.cells #[.int .u8 p0,.int .u8 p1,.int .u8 p2,.int .u8 p3,.int .u8 p4,.int .u8 p5,.int .u8 p6,.int .u8 p7,.int .u8 p8,.int .u8 p9] 25);replace HB:=mB HB ai;clear ai;generalize (w.alloc (.cells #[.int .u8 p0,.int .u8 p1,.int .u8 p2,.int .u8 p3,.int .u8 p4,.int .u8 p5,.int .u8 p6,.int .u8 p7,.int .u8 p8,.int .u8 p9] 25))=w1 at aZ HB|-
 have Ti:=cz aZ.out 1 rfl;have oL:=cz aZ.out 2 rfl
 go_wp2_with fail
 go_quiet ((first
  |(go_at_call 49;(with_reducible refine (Q1.out _).mono ?_);rintro e w' ⟨rfl,⟨nd,rfl⟩⟩;exact ⟨rfl,_,rfl⟩)
  |(go_at_call 49;(with_reducible refine (Q1.out _).mono ?_);rintro e w' ⟨rfl,⟨nd,rfl⟩⟩;exact ⟨rfl,_,World.drewN_drewN _ _ _⟩)
  |(go_at_call 49;(with_reducible refine (Q1.out _).mono ?_);rintro e w' ⟨rfl,⟨nd,rfl⟩⟩;exact ⟨rfl,_,Eq.trans (World.drewN_drewN _ _ _) (congrArg (World.drewN _) (Nat.add_assoc _ _ _))⟩)
  |(go_at_call 50;(with_reducible refine (Q2.out _).mono ?_);rintro e w' ⟨rfl,⟨nd,rfl⟩⟩;exact ⟨rfl,_,rfl⟩)
  |(go_at_call 50;(with_reducible refine (Q2.out _).mono ?_);rintro e w' ⟨rfl,⟨nd,rfl⟩⟩;exact ⟨rfl,_,World.drewN_drewN _ _ _⟩)
  |(go_at_call 50;(with_reducible refine (Q2.out _).mono ?_);rintro e w' ⟨rfl,⟨nd,rfl⟩⟩;exact ⟨rfl,_,Eq.trans (World.drewN_drewN _ _ _) (congrArg (World.drewN _) (Nat.add_assoc _ _ _))⟩)))
 refine Ei ?_;intro w2 hb;have ai:=hb;replace HB:=mB HB ai;replace aZ:=mX aZ ai;clear ai;clear hb Ti oL
 go_upto_if 29 with (fail)
 go_cut [7,8] from 30 to 41 (fun s7 s8 w'=>s7= .int .u32 src /\ s8= .int .u32 dst /\ aa (w'.heap[gp]?=some (.cells #[.int .u8 p0,.int .u8 p1,.int .u8 p2,.int .u8 p3,.int .u8 p4,.int .u8 p5,.int .u8 p6,.int .u8 p7,.int .u8 p8,.int .u8 p9] 25 (0,0))) /\ aa (Below w.heap.size w w'))
 case first=>
  by_cases gs:side=0
  ·have gs1:(side !=0)=false:=by rw [bne,fF gs];rfl
   have gs2:(side==0)=true:=fF gs
   have hs:s0=src /\ d0=dst:=by
    have h:=HSD.out;unfold bA.sd at h
    rw [aq gs] at h
    simp only [Option.some.injEq,Prod.mk.injEq] at h
    exact h
   obtain ⟨rfl,rfl⟩:=hs;clear gs
   go_wp2
   go_meet
   case rel=>exact ⟨rfl,rfl,⟨aZ.out⟩,⟨HB.out⟩⟩
  have gs1:(side !=0)=true:=bne_iff_ne.2 gs
  have gs2:(side==0)=false:=fq gs
  have hs:(bQ.f k p1 (n % 256)).bind (fun s=>(bQ.f k ((5+p2.tmod 3) % 256) (n % 256)).bind fun d=>some (s,d))=some (src,dst):=by
   have h:=HSD.out;unfold bA.sd at h
   rwa [av gs] at h
  obtain ⟨sx,hsx,hs⟩:=bR hs;obtain ⟨dx,hdx,hs⟩:=bR hs;simp only [Option.some.injEq,Prod.mk.injEq] at hs
  obtain ⟨rfl,rfl⟩:=hs;have Q3:aa (∀ W:World,Calls Try.prog 50 #[.int .u8 p1,.int .u8 (n % 256)] W fun e w'=>e= .returned (.int .u32 sx) /\ bB W w'):=⟨fun W=>bQ.calls k p1 (n % 256) sx W hsx⟩
  have Q4:aa (∀ W:World,Calls Try.prog 50 #[.int .u8 ((5+p2.tmod 3) % 256),.int .u8 (n % 256)] W fun e w'=>e= .returned (.int .u32 dx) /\ bB W w'):=⟨fun W=>bQ.calls k ((5+p2.tmod 3) % 256) (n % 256) dx W hdx⟩
  clear gs hsx hdx
  (try dsimp only)
  have Ti:=cz aZ.out 1 rfl;have oL:=cz aZ.out 2 rfl
  go_wp2_with fail
  go_quiet ((first
   |(go_at_call 50;(with_reducible refine (Q3.out _).mono ?_);rintro e w' ⟨rfl,⟨nd,rfl⟩⟩;exact ⟨rfl,_,rfl⟩)
   |(go_at_call 50;(with_reducible refine (Q3.out _).mono ?_);rintro e w' ⟨rfl,⟨nd,rfl⟩⟩;exact ⟨rfl,_,World.drewN_drewN _ _ _⟩)
   |(go_at_call 50;(with_reducible refine (Q3.out _).mono ?_);rintro e w' ⟨rfl,⟨nd,rfl⟩⟩;exact ⟨rfl,_,Eq.trans (World.drewN_drewN _ _ _) (congrArg (World.drewN _) (Nat.add_assoc _ _ _))⟩)
   |(go_at_call 50;(with_reducible refine (Q4.out _).mono ?_);rintro e w' ⟨rfl,⟨nd,rfl⟩⟩;exact ⟨rfl,_,rfl⟩)
   |(go_at_call 50;(with_reducible refine (Q4.out _).mono ?_);rintro e w' ⟨rfl,⟨nd,rfl⟩⟩;exact ⟨rfl,_,World.drewN_drewN _ _ _⟩)
   |(go_at_call 50;(with_reducible refine (Q4.out _).mono ?_);rintro e w' ⟨rfl,⟨nd,rfl⟩⟩;exact ⟨rfl,_,Eq.trans (World.drewN_drewN _ _ _) (congrArg (World.drewN _) (Nat.add_assoc _ _ _))⟩)))
  refine Ei ?_;intro w3 hb;have ai:=hb;replace aZ:=mX aZ ai;replace HB:=mB HB ai;clear ai;clear hb Ti oL
  go_wp2
  go_meet
  case rel=>exact ⟨rfl,rfl,⟨aZ.out⟩,⟨HB.out⟩⟩
 obtain ⟨rfl,rfl,jS,gY⟩:=hcut;clear aZ HB;have aZ:=jS;have HB:=gY;clear jS gY;have Aqo:=cz aZ.out 0 rfl
 go_wp2_with fail
 refine (l7.calls p0 pr _ HPR.out).mono ?_;rintro e w4 ⟨rfl,hb⟩;have ai:=hb;replace HB:=mB HB ai;replace aZ:=mX aZ ai;clear ai;clear hb Aqo
 (try dsimp only)
 have Aqp:=cz aZ.out 3 rfl;have Aqq:=cz aZ.out 4 rfl
 go_wp2_with fail
 go_quiet ((first
  |(go_at_call 52;(with_reducible refine (Q5.out _).mono ?_);rintro e w' ⟨rfl,⟨nd,rfl⟩⟩;exact ⟨rfl,_,rfl⟩)
  |(go_at_call 52;(with_reducible refine (Q5.out _).mono ?_);rintro e w' ⟨rfl,⟨nd,rfl⟩⟩;exact ⟨rfl,_,World.drewN_drewN _ _ _⟩)
  |(go_at_call 52;(with_reducible refine (Q5.out _).mono ?_);rintro e w' ⟨rfl,⟨nd,rfl⟩⟩;exact ⟨rfl,_,Eq.trans (World.drewN_drewN _ _ _) (congrArg (World.drewN _) (Nat.add_assoc _ _ _))⟩)
  |(go_at_call 52;(with_reducible refine (Q6.out _).mono ?_);rintro e w' ⟨rfl,⟨nd,rfl⟩⟩;exact ⟨rfl,_,rfl⟩)
  |(go_at_call 52;(with_reducible refine (Q6.out _).mono ?_);rintro e w' ⟨rfl,⟨nd,rfl⟩⟩;exact ⟨rfl,_,World.drewN_drewN _ _ _⟩)
  |(go_at_call 52;(with_reducible refine (Q6.out _).mono ?_);rintro e w' ⟨rfl,⟨nd,rfl⟩⟩;exact ⟨rfl,_,Eq.trans (World.drewN_drewN _ _ _) (congrArg (World.drewN _) (Nat.add_assoc _ _ _))⟩)))
 refine Ei ?_;intro w5 hb;have ai:=hb;replace HB:=mB HB ai;replace aZ:=mX aZ ai;clear ai;clear hb Aqp Aqq;have Adh:=cz aZ.out 5 rfl;have HX:=cz aZ.out 8 rfl
 go_wp2_with fail
 refine (l9.calls k pr src dst fr tp p5 p8 x _ HN.out.1 HX1.out).mono ?_;rintro e w6 ⟨v_,rfl,ho,hb⟩;have eB:=aa.mk (Kd.bP ho (af HB.out));obtain ⟨Ax,cx,rfl,_,_⟩:=Kd.cj ho;clear ho;have ai:=hb;replace HB:=mB HB ai;replace aZ:=mX aZ ai;clear ai;clear hb Adh HX
 (try dsimp only)
 have HX:=cz aZ.out 8 rfl
 go_upto_region 8 with ((first|(refine lX rfl rfl (uh rfl rfl rfl eN.out rfl (by simp [Value.oneCell'])) ?_)))
 clear HX;obtain ⟨gi,hgi⟩:∃ x_,x_=w6.heap.size:=⟨_,rfl⟩
 have bg:aa ((w6.alloc (.cells #[.int .u8 0,.int .u8 64,.int .u8 pr,.int .u16 (IntKind.u16.wrap p8),.int .u8 2,.int .u16 0,.int .u32 src,.int .u32 dst,.slice none 0 0,.slice Ax x.length cx] 73)).heap[gi]?=some (.cells #[.int .u8 0,.int .u8 64,.int .u8 pr,.int .u16 (IntKind.u16.wrap p8),.int .u8 2,.int .u16 0,.int .u32 src,.int .u32 dst,.slice none 0 0,.slice Ax x.length cx] 73 (0,0))):=⟨by rw [hgi];exact iT _ _⟩
 have kM:=aa.mk (show w.heap.size<=gi by rw [hgi];exact af HB.out);rw [<- hgi];clear hgi;have ai:=dV (Below.refl w6.heap.size w6) (.cells #[.int .u8 0,.int .u8 64,.int .u8 pr,.int .u16 (IntKind.u16.wrap p8),.int .u8 2,.int .u16 0,.int .u32 src,.int .u32 dst,.slice none 0 0,.slice Ax x.length cx] 73);replace HB:=mB HB ai;replace aZ:=mX aZ ai;replace eB:=mR eB ai;clear ai;generalize (w6.alloc (.cells #[.int .u8 0,.int .u8 64,.int .u8 pr,.int .u16 (IntKind.u16.wrap p8),.int .u8 2,.int .u16 0,.int .u32 src,.int .u32 dst,.slice none 0 0,.slice Ax x.length cx] 73))=w8 at bg HB aZ eB|-
 have vM:=cz aZ.out 7 rfl
 go_upto_if 72 with (fail)
 clear vM
 go_cut [] from 14 to 109 (fun w'=>∃ (A:Option Addr) (c_:Nat),aa (Kd.R (Kd.int .u8) 5 w' w.heap.size (fun _=>True) (.slice A x2.length c_) x2) /\ aa (w'.heap[gi]?=some (.cells #[.int .u8 0,.int .u8 64,.int .u8 Iu,.int .u16 (IntKind.u16.wrap p8),.int .u8 2,.int .u16 0,.int .u32 src,.int .u32 dst,.slice none 0 0,.slice A x2.length c_] 73 (0,0))) /\ aa (w'.heap[gp]?=some (.cells #[.int .u8 p0,.int .u8 p1,.int .u8 p2,.int .u8 p3,.int .u8 p4,.int .u8 p5,.int .u8 p6,.int .u8 p7,.int .u8 p8,.int .u8 p9] 25 (0,0))) /\ aa (Below w.heap.size w w'))
 case first=>
  by_cases ge:p7.tmod 5=4
  rotate_left
  ·have ge1:(p7.tmod 5==4)=false:=fq ge
   have ge2:(p7.tmod 5 !=4)=true:=bne_iff_ne.2 ge
   have he:pr=Iu /\ x=x2:=by
    have h:=HER.out;unfold bA.er at h
    rw [av ge] at h
    simp only [Option.some.injEq,Prod.mk.injEq] at h
    exact h
   obtain ⟨rfl,rfl⟩:=he;clear ge
   go_wp2
   go_meet
   case rel=>exact ⟨_,_,⟨eB.out⟩,⟨bg.out⟩,⟨aZ.out⟩,⟨HB.out⟩⟩
  have ge1:(p7.tmod 5==4)=true:=fF ge
  have ge2:(p7.tmod 5 !=4)=false:=by rw [bne,ge1];rfl
  have he:(l9.f k pr dst src tp fr p5 p8).bind (fun y=>(aI.f k 0 3 pr 0 0 0 dst src [] y).bind fun q=>(fE.f k (rd [3,11,12] (p8.tmod 3)) 0 0 0 q.1).bind fun c=>(bG.f (rd [3,11,12] (p8.tmod 3)) 0 c 0 q.1).bind fun m=>some (1,m.1))=some (Iu,x2):=by
   have h:=HER.out;unfold bA.er at h
   rwa [aq ge] at h
  obtain ⟨y,hy,he⟩:=bR he;obtain ⟨⟨q,qe⟩,hq,he⟩:=bR he;obtain ⟨c,hc,he⟩:=bR he;obtain ⟨⟨m,me⟩,hm,he⟩:=bR he;simp only [Option.some.injEq,Prod.mk.injEq] at he
  obtain ⟨rfl,rfl⟩:=he;dsimp only at hc hm
  obtain ⟨ty,hty⟩:∃ ty,ty=rd [3,11,12] (p8.tmod 3):=⟨_,rfl⟩
  rw [<- hty] at hc hm
  have HY:=aa.mk hy;have HQ_:=aa.mk hq;have HC_:=aa.mk hc;have HM_:=aa.mk hm;have HTY:=aa.mk hty;clear ge hy hq hc hm hty;have Adh:=cz aZ.out 5 rfl;have HX:=cz aZ.out 8 rfl
  go_wp2_with fail
  refine (l9.calls k pr dst src tp fr p5 p8 y _ HN.out.1 HY.out).mono ?_;rintro e w9 ⟨v_,rfl,ho,hb⟩;have wR:=aa.mk (Kd.bP ho (af HB.out));obtain ⟨Ay,cy,rfl,hcy,hky⟩:=Kd.cj ho;have HCy:=aa.mk hky;have HLy:=aa.mk hcy;clear hky hcy;clear ho HY;have ai:=hb;replace HB:=mB HB ai;replace aZ:=mX aZ ai;replace bg:=mX bg ai;replace eB:=mR eB ai;clear ai;clear hb Adh HX
  (try dsimp only)
  go_upto_region 10 with ((first|(refine lX rfl rfl (uh rfl rfl rfl eN.out rfl (by simp [Value.oneCell'])) ?_)))
  obtain ⟨gn,hgn⟩:∃ x_,x_=w9.heap.size:=⟨_,rfl⟩
  have cX:aa ((w9.alloc (.cells #[.int .u8 0,.int .u8 3,.int .u8 pr,.int .u16 0,.int .u8 0,.int .u16 0,.int .u32 dst,.int .u32 src,.slice none 0 0,.slice Ay y.length cy] 73)).heap[gn]?=some (.cells #[.int .u8 0,.int .u8 3,.int .u8 pr,.int .u16 0,.int .u8 0,.int .u16 0,.int .u32 dst,.int .u32 src,.slice none 0 0,.slice Ay y.length cy] 73 (0,0))):=⟨by rw [hgn];exact iT _ _⟩
  have Cf:=aa.mk (show w.heap.size<=gn by rw [hgn];exact af HB.out);rw [<- hgn];clear hgn;have ai:=dV (Below.refl w9.heap.size w9) (.cells #[.int .u8 0,.int .u8 3,.int .u8 pr,.int .u16 0,.int .u8 0,.int .u16 0,.int .u32 dst,.int .u32 src,.slice none 0 0,.slice Ay y.length cy] 73);replace HB:=mB HB ai;replace aZ:=mX aZ ai;replace bg:=mX bg ai;replace eB:=mR eB ai;replace HCy:=mC HCy ai;clear ai;generalize (w9.alloc (.cells #[.int .u8 0,.int .u8 3,.int .u8 pr,.int .u16 0,.int .u8 0,.int .u16 0,.int .u32 dst,.int .u32 src,.slice none 0 0,.slice Ay y.length cy] 73))=ku at cX HB aZ bg eB HCy|-
  go_wp2_with (refine Kd.bU rfl (bM rfl rfl cX.out Try.underlying73 rfl eN.out) ?_)
  refine (aI.calls k 0 3 pr 0 0 0 dst src none 0 [] Ay cy y q qe _ (Kd.Dc _ _) (Nat.le_refl _) HCy.out HLy.out HQ_.out).mono ?_;rintro e sn ⟨v_,rfl,ho,hb⟩;have Lc:=aa.mk (Kd.bP ho (af HB.out));obtain ⟨Aq,cq,rfl,hcq,_⟩:=Kd.cj ho;have HLq:=aa.mk hcq;clear ho HQ_ HCy cX Cf wR HLy hcq;have ai:=hb;replace HB:=mB HB ai;replace aZ:=mX aZ ai;replace bg:=mX bg ai;replace eB:=mR eB ai;clear ai;clear hb
  (try dsimp only)
  have HX:=cz aZ.out 8 rfl;have hidx:p8.tmod 3<3:=Int.tmod_lt_of_pos _ (by decide);have Zu:0<=p8.tmod 3:=Int.tmod_nonneg _ HN.out.1.1
  go_upto_region 12 with (first|((with_reducible refine aA (N:=92) rfl ?_);refine Gm ?fT (cs:= #[.int .u8 3,.int .u8 11,.int .u8 12]) (t:=5) (n:=3) ?eY ?_;(case fT=>rfl);(case eY=>first|(go_simp;done)|(go_simp;rfl));intro gl nP J3 hgl Ak;have rL:=aa.mk J3;clear J3 hgl HX;have ai:=Ak;replace HB:=mB HB ai;replace aZ:=mX aZ ai;replace bg:=mX bg ai;replace eB:=mR eB ai;replace Lc:=mR Lc ai;clear ai;clear Ak;have HX:nP.cell? ⟨gp,8,none⟩=some (.int .u8 p8):=(aN aZ.out 8).trans rfl;have hl_:nP.cell? ⟨gl,(p8.tmod 3).toNat,none⟩=some (.int .u8 ty):=by (rw [HTY.out];exact Adf rL.out _ Zu hidx))|(first|(refine lX rfl rfl (uh rfl rfl rfl jD.out rfl (by simp [Value.oneCell'])) ?_)))
  clear hidx Zu HX hl_ rL;obtain ⟨gm,Xf⟩:∃ x_,x_=nP.heap.size:=⟨_,rfl⟩
  have kC:aa ((nP.alloc (.cells #[.int .u8 ty,.int .u8 0,.int .u16 0,.int .u32 0,.slice Aq q.length cq] 101)).heap[gm]?=some (.cells #[.int .u8 ty,.int .u8 0,.int .u16 0,.int .u32 0,.slice Aq q.length cq] 101 (0,0))):=⟨by rw [Xf];exact iT _ _⟩
  have JR:=aa.mk (show w.heap.size<=gm by rw [Xf];exact af HB.out);rw [<- Xf];clear Xf;have ai:=dV (Below.refl nP.heap.size nP) (.cells #[.int .u8 ty,.int .u8 0,.int .u16 0,.int .u32 0,.slice Aq q.length cq] 101);replace HB:=mB HB ai;replace aZ:=mX aZ ai;replace bg:=mX bg ai;replace eB:=mR eB ai;replace Lc:=mR Lc ai;clear ai;generalize (nP.alloc (.cells #[.int .u8 ty,.int .u8 0,.int .u16 0,.int .u32 0,.slice Aq q.length cq] 101))=Fa at kC HB aZ bg eB Lc|-
  go_wp2_with (refine Kd.bU rfl (bM rfl rfl kC.out Try.underlying101 rfl jD.out) ?_)
  refine (fE.calls k ty 0 0 0 Aq cq q c _ (Kd.ay Lc.out).2.2 HLq.out HC_.out).mono ?_;rintro e Vb ⟨rfl,hb⟩;clear HC_;have ai:=hb;replace HB:=mB HB ai;replace aZ:=mX aZ ai;replace bg:=mX bg ai;replace kC:=mX kC ai;replace eB:=mR eB ai;replace Lc:=mR Lc ai;clear ai;clear hb
  (try dsimp only)
  go_upto_region 14 with (first|((refine jO rfl rfl (i:=2) (v:= .int .u16 c) (cs':= #[.int .u8 ty,.int .u8 0,.int .u16 c,.int .u32 0,.slice Aq q.length cq]) kC.out rfl ?eY ?_);(case eY=>(have m_:=(aN kC.out 2).trans (rfl:_=some (.int .u16 0:Value)));(have pU:=ae kC.out 2);first|(go_simp;done)|(go_simp;rfl));intro yD hs_ ag;have gY:=aa.mk (j7.below ag HB.out JR.out);have jS:=aa.mk (j7.blk ag aZ.out kC.out (by decide));have xE:=aa.mk (j7.blk ag bg.out kC.out (by decide));have lI:=aa.mk (j7.R ag eB.out kC.out (by decide));have Kw:=aa.mk (j7.R ag Lc.out kC.out (by decide));clear HB aZ bg eB Lc kC ag;have kC:=aa.mk hs_;clear hs_;have HB:=gY;have aZ:=jS;have bg:=xE;have eB:=lI;have Lc:=Kw;clear gY jS xE lI Kw)|((refine jO rfl rfl (i:=2) (v:= .int .u8 1) (cs':= #[.int .u8 0,.int .u8 64,.int .u8 1,.int .u16 (IntKind.u16.wrap p8),.int .u8 2,.int .u16 0,.int .u32 src,.int .u32 dst,.slice none 0 0,.slice Ax x.length cx]) bg.out rfl ?eY ?_);(case eY=>(have m_:=(aN bg.out 2).trans (rfl:_=some (.int .u8 pr:Value)));(have pU:=ae bg.out 2);first|(go_simp;done)|(go_simp;rfl));intro qY hs_ ag;have gY:=aa.mk (j7.below ag HB.out kM.out);have jS:=aa.mk (j7.blk ag aZ.out bg.out (by decide));have Zv:=aa.mk (j7.blk ag kC.out bg.out (by decide));have lI:=aa.mk (j7.R ag eB.out bg.out (by decide));have Kw:=aa.mk (j7.R ag Lc.out bg.out (by decide));clear HB aZ kC eB Lc bg ag;have bg:=aa.mk hs_;clear hs_;have HB:=gY;have aZ:=jS;have kC:=Zv;have eB:=lI;have Lc:=Kw;clear gY jS Zv lI Kw))
  go_wp2_with (refine Kd.bU rfl (bM rfl rfl kC.out Try.underlying101 rfl jD.out) ?_)
  refine (bG.calls ty 0 c 0 Aq cq q m me _ (Kd.ay Lc.out).2.2 HLq.out HM_.out).mono ?_;rintro e BX ⟨v_,rfl,ho,hb⟩;have HRm:=aa.mk (Kd.bP ho (af HB.out));obtain ⟨Am,cm,rfl,_,_⟩:=Kd.cj ho;clear ho HM_ kC JR Lc HLq eB;have ai:=hb;replace HB:=mB HB ai;replace aZ:=mX aZ ai;replace bg:=mX bg ai;clear ai;clear hb
  go_wp2_with ((refine jO rfl rfl (i:=9) (v:= .slice Am m.length cm) (cs':= #[.int .u8 0,.int .u8 64,.int .u8 1,.int .u16 (IntKind.u16.wrap p8),.int .u8 2,.int .u16 0,.int .u32 src,.int .u32 dst,.slice none 0 0,.slice Am m.length cm]) bg.out rfl ?eY ?_);(case eY=>(have m_:=(aN bg.out 9).trans (rfl:_=some (.slice Ax x.length cx:Value)));(have pU:=ae bg.out 9);first|(go_simp;done)|(go_simp;rfl));intro qJ hs_ ag;have gY:=aa.mk (j7.below ag HB.out kM.out);have jS:=aa.mk (j7.blk ag aZ.out bg.out (by decide));have Zw:=aa.mk (j7.R ag HRm.out bg.out (by decide));clear HB aZ HRm bg ag;have bg:=aa.mk hs_;clear hs_;have HB:=gY;have aZ:=jS;have HRm:=Zw;clear gY jS Zw)
  go_meet
  case rel=>exact ⟨_,_,⟨HRm.out⟩,⟨bg.out⟩,⟨aZ.out⟩,⟨HB.out⟩⟩
 obtain ⟨A,c_,lI,xE,jS,gY⟩:=hcut;clear eB bg aZ HB;have eB:=lI;have bg:=xE;have aZ:=jS;have HB:=gY;clear lI xE jS gY;have uG:=cz aZ.out 6 rfl
 go_upto_block 0 with (fail)
 clear uG
 go_cut [] from 113 to 132 (fun w'=>∃ (Ao:Option Addr) (co:Nat),aa (Kd.R (Kd.int .u8) 5 w' w.heap.size (fun _=>True) (.slice Ao op.length co) op) /\ aa (Kd.R (Kd.int .u8) 5 w' w.heap.size (fun _=>True) (.slice A x2.length c_) x2) /\ aa (w'.heap[gi]?=some (.cells #[.int .u8 0,.int .u8 ttl,.int .u8 pr3,.int .u16 (IntKind.u16.wrap p8),.int .u8 fl2,.int .u16 of2,.int .u32 src,.int .u32 dst,.slice Ao op.length co,.slice A x2.length c_] 73 (0,0))) /\ aa (w'.heap[gp]?=some (.cells #[.int .u8 p0,.int .u8 p1,.int .u8 p2,.int .u8 p3,.int .u8 p4,.int .u8 p5,.int .u8 p6,.int .u8 p7,.int .u8 p8,.int .u8 p9] 25 (0,0))) /\ aa (Below w.heap.size w w'))
 case first=>
  by_cases t0:p6.tmod 16=0
  ·have t01:(p6.tmod 16==0)=true:=fF t0
   have t02:(p6.tmod 16 !=0)=false:=by rw [bne,t01];rfl
   have e:=HSW.out;unfold bA.sw at e
   rw [aq t0] at e
   simp only [Prod.mk.injEq] at e
   obtain ⟨rfl,rfl,rfl,rfl,rfl⟩:=e;clear t0;have uG:=cz aZ.out 6 rfl
   go_wp2_with (((refine jO rfl rfl (i:=1) (v:= .int .u8 (p6.tdiv 16 % 256 % 3)) (cs':= #[.int .u8 0,.int .u8 (p6.tdiv 16 % 256 % 3),.int .u8 Iu,.int .u16 (IntKind.u16.wrap p8),.int .u8 2,.int .u16 0,.int .u32 src,.int .u32 dst,.slice none 0 0,.slice A x2.length c_]) bg.out rfl ?eY ?_);(case eY=>(have m_:=(aN bg.out 1).trans (rfl:_=some (.int .u8 64:Value)));(have pU:=ae bg.out 1);first|(go_simp;done)|(go_simp;rfl));intro w21 hs_ ag;have gY:=aa.mk (j7.below ag HB.out kM.out);have jS:=aa.mk (j7.blk ag aZ.out bg.out (by decide));have lI:=aa.mk (j7.R ag eB.out bg.out (by decide));clear HB aZ eB bg ag;have bg:=aa.mk hs_;clear hs_;have HB:=gY;have aZ:=jS;have eB:=lI;clear gY jS lI))
   go_meet
   case rel=>exact ⟨_,_,⟨Kd.bX _ _ _ _ _⟩,⟨eB.out⟩,⟨bg.out⟩,⟨aZ.out⟩,⟨HB.out⟩⟩
  have t01:(p6.tmod 16==0)=false:=fq t0
  have t02:(p6.tmod 16 !=0)=true:=bne_iff_ne.2 t0
  by_cases t1:p6.tmod 16=1
  ·have t11:(p6.tmod 16==1)=true:=fF t1
   have t12:(p6.tmod 16 !=1)=false:=by rw [bne,t11];rfl
   have e:=HSW.out;unfold bA.sw at e
   rw [av t0] at e
   rw [aq t1] at e
   simp only [Prod.mk.injEq] at e
   obtain ⟨rfl,rfl,rfl,rfl,rfl⟩:=e;clear t0 t1
   go_wp2_with (((refine jO rfl rfl (i:=4) (v:= .int .u8 1) (cs':= #[.int .u8 0,.int .u8 64,.int .u8 Iu,.int .u16 (IntKind.u16.wrap p8),.int .u8 1,.int .u16 0,.int .u32 src,.int .u32 dst,.slice none 0 0,.slice A x2.length c_]) bg.out rfl ?eY ?_);(case eY=>(have m_:=(aN bg.out 4).trans (rfl:_=some (.int .u8 2:Value)));(have pU:=ae bg.out 4);first|(go_simp;done)|(go_simp;rfl));intro w21 hs_ ag;have gY:=aa.mk (j7.below ag HB.out kM.out);have jS:=aa.mk (j7.blk ag aZ.out bg.out (by decide));have lI:=aa.mk (j7.R ag eB.out bg.out (by decide));clear HB aZ eB bg ag;have bg:=aa.mk hs_;clear hs_;have HB:=gY;have aZ:=jS;have eB:=lI;clear gY jS lI))
   go_meet
   case rel=>exact ⟨_,_,⟨Kd.bX _ _ _ _ _⟩,⟨eB.out⟩,⟨bg.out⟩,⟨aZ.out⟩,⟨HB.out⟩⟩
  have t11:(p6.tmod 16==1)=false:=fq t1
  have t12:(p6.tmod 16 !=1)=true:=bne_iff_ne.2 t1
  by_cases t2:p6.tmod 16=2
  ·have t21:(p6.tmod 16==2)=true:=fF t2
   have t22:(p6.tmod 16 !=2)=false:=by rw [bne,t21];rfl
   have e:=HSW.out;unfold bA.sw at e
   rw [av t0] at e
   rw [av t1] at e
   rw [aq t2] at e
   simp only [Prod.mk.injEq] at e
   obtain ⟨rfl,rfl,rfl,rfl,rfl⟩:=e;clear t0 t1 t2
   go_wp2_with (((refine jO rfl rfl (i:=5) (v:= .int .u16 5) (cs':= #[.int .u8 0,.int .u8 64,.int .u8 Iu,.int .u16 (IntKind.u16.wrap p8),.int .u8 2,.int .u16 5,.int .u32 src,.int .u32 dst,.slice none 0 0,.slice A x2.length c_]) bg.out rfl ?eY ?_);(case eY=>(have m_:=(aN bg.out 5).trans (rfl:_=some (.int .u16 0:Value)));(have pU:=ae bg.out 5);first|(go_simp;done)|(go_simp;rfl));intro w21 hs_ ag;have gY:=aa.mk (j7.below ag HB.out kM.out);have jS:=aa.mk (j7.blk ag aZ.out bg.out (by decide));have lI:=aa.mk (j7.R ag eB.out bg.out (by decide));clear HB aZ eB bg ag;have bg:=aa.mk hs_;clear hs_;have HB:=gY;have aZ:=jS;have eB:=lI;clear gY jS lI))
   go_meet
   case rel=>exact ⟨_,_,⟨Kd.bX _ _ _ _ _⟩,⟨eB.out⟩,⟨bg.out⟩,⟨aZ.out⟩,⟨HB.out⟩⟩
  have t21:(p6.tmod 16==2)=false:=fq t2
  have t22:(p6.tmod 16 !=2)=true:=bne_iff_ne.2 t2
  by_cases t3:p6.tmod 16=3
  ·have t31:(p6.tmod 16==3)=true:=fF t3
   have t32:(p6.tmod 16 !=3)=false:=by rw [bne,t31];rfl
   have e:=HSW.out;unfold bA.sw at e
   rw [av t0] at e
   rw [av t1] at e
   rw [av t2] at e
   rw [aq t3] at e
   simp only [Prod.mk.injEq] at e
   obtain ⟨rfl,rfl,rfl,rfl,rfl⟩:=e;clear t0 t1 t2 t3
   go_wp2_with (((refine jO rfl rfl (i:=2) (v:= .int .u8 47) (cs':= #[.int .u8 0,.int .u8 64,.int .u8 47,.int .u16 (IntKind.u16.wrap p8),.int .u8 2,.int .u16 0,.int .u32 src,.int .u32 dst,.slice none 0 0,.slice A x2.length c_]) bg.out rfl ?eY ?_);(case eY=>(have m_:=(aN bg.out 2).trans (rfl:_=some (.int .u8 Iu:Value)));(have pU:=ae bg.out 2);first|(go_simp;done)|(go_simp;rfl));intro w21 hs_ ag;have gY:=aa.mk (j7.below ag HB.out kM.out);have jS:=aa.mk (j7.blk ag aZ.out bg.out (by decide));have lI:=aa.mk (j7.R ag eB.out bg.out (by decide));clear HB aZ eB bg ag;have bg:=aa.mk hs_;clear hs_;have HB:=gY;have aZ:=jS;have eB:=lI;clear gY jS lI))
   go_meet
   case rel=>exact ⟨_,_,⟨Kd.bX _ _ _ _ _⟩,⟨eB.out⟩,⟨bg.out⟩,⟨aZ.out⟩,⟨HB.out⟩⟩
  have t31:(p6.tmod 16==3)=false:=fq t3
  have t32:(p6.tmod 16 !=3)=true:=bne_iff_ne.2 t3
  by_cases t4:p6.tmod 16=4
  ·have t41:(p6.tmod 16==4)=true:=fF t4
   have t42:(p6.tmod 16 !=4)=false:=by rw [bne,t41];rfl
   have e:=HSW.out;unfold bA.sw at e
   rw [av t0] at e
   rw [av t1] at e
   rw [av t2] at e
   rw [av t3] at e
   rw [aq t4] at e
   simp only [Prod.mk.injEq] at e
   obtain ⟨rfl,rfl,rfl,rfl,rfl⟩:=e;clear t0 t1 t2 t3 t4
   go_wp2_with (first|((with_reducible refine aA (N:=131) rfl ?_);refine VD .u8 w.heap.size 5 ?fT (N:=131) ?iB [1,1,1,1] ?eY HB.out (af HB.out) (by simp) ?_;(case iB=>rfl);(case fT=>rfl);(case eY=>first|(go_simp;done)|(go_simp;rfl));intro Ao co w20 ho Ak fT;have bL:=aa.mk ho;have xE:=aa.mk (gW bg.out fT (fun h=>nomatch h));have jS:=aa.mk (gW aZ.out fT (fun h=>nomatch h));have lI:=aa.mk (Kd.wM eB.out (fun k_ _ mo=>fT.block k_ mo (fun h=>nomatch h)));have gY:=aa.mk Ak;clear ho Ak fT;clear bg aZ eB HB;have bg:=xE;have aZ:=jS;have eB:=lI;have HB:=gY;clear xE jS lI gY)|((refine jO rfl rfl (i:=8) (v:= .slice Ao 4 co) (cs':= #[.int .u8 0,.int .u8 64,.int .u8 Iu,.int .u16 (IntKind.u16.wrap p8),.int .u8 2,.int .u16 0,.int .u32 src,.int .u32 dst,.slice Ao 4 co,.slice A x2.length c_]) bg.out rfl ?eY ?_);(case eY=>(have m_:=(aN bg.out 8).trans (rfl:_=some (.slice none 0 0:Value)));(have pU:=ae bg.out 8);first|(go_simp;done)|(go_simp;rfl));intro Qu hs_ ag;have gY:=aa.mk (j7.below ag HB.out kM.out);have jS:=aa.mk (j7.blk ag aZ.out bg.out (by decide));have lI:=aa.mk (j7.R ag eB.out bg.out (by decide));have Zx:=aa.mk (j7.R ag bL.out bg.out (by decide));clear HB aZ eB bL bg ag;have bg:=aa.mk hs_;clear hs_;have HB:=gY;have aZ:=jS;have eB:=lI;have bL:=Zx;clear gY jS lI Zx))
   go_meet
   case rel=>exact ⟨_,_,⟨bL.out⟩,⟨eB.out⟩,⟨bg.out⟩,⟨aZ.out⟩,⟨HB.out⟩⟩
  have t41:(p6.tmod 16==4)=false:=fq t4
  have t42:(p6.tmod 16 !=4)=true:=bne_iff_ne.2 t4;have e:=HSW.out;unfold bA.sw at e
  rw [av t0] at e
  rw [av t1] at e
  rw [av t2] at e
  rw [av t3] at e
  rw [av t4] at e
  simp only [Prod.mk.injEq] at e
  obtain ⟨rfl,rfl,rfl,rfl,rfl⟩:=e;clear t0 t1 t2 t3 t4
  go_wp2_with (fail)
  go_meet
  case rel=>exact ⟨_,_,⟨Kd.bX _ _ _ _ _⟩,⟨eB.out⟩,⟨bg.out⟩,⟨aZ.out⟩,⟨HB.out⟩⟩
 obtain ⟨Ao,co,bL,lI,xE,jS,gY⟩:=hcut;clear eB bg aZ HB;have eB:=lI;have bg:=xE;have aZ:=jS;have HB:=gY;clear lI xE jS gY
 go_wp2_with (refine Kd.bU rfl (bM rfl rfl bg.out Try.underlying73 rfl eN.out) ?_)
 refine (aI.calls k 0 ttl pr3 (IntKind.u16.wrap p8) fl2 of2 src dst Ao co op A c_ x2 b be _ (Kd.ay bL.out).2.2 (Kd.ay bL.out).2.1 (Kd.ay eB.out).2.2 (Kd.ay eB.out).2.1 HBB.out).mono ?_;rintro e Ir ⟨v_,rfl,ho,hb⟩;have bI:=aa.mk (Kd.bP ho (af HB.out));obtain ⟨Ab,cb,rfl,_,_⟩:=Kd.cj ho;clear ho HBB bL eB bg kM;have ai:=hb;replace HB:=mB HB ai;replace aZ:=mX aZ ai;clear ai;clear hb
 (try dsimp only)
 have yl:=cz aZ.out 9 rfl
 by_cases g7:p9.tmod 8=7
 rotate_left
 ·have g71:(p9.tmod 8==7)=false:=fq g7
  have g72:(p9.tmod 8 !=7)=true:=bne_iff_ne.2 g7
  (try dsimp only)
  go_wp2
  (try simp only [Exit.inBlock,Exit.then])
  go_ret
  exact ⟨_,rfl,(by unfold bA.sp;rw [av g7];exact bI.out),HB.out⟩
 have g71:(p9.tmod 8==7)=true:=fF g7
 have g72:(p9.tmod 8 !=7)=false:=by rw [bne,g71];rfl
 by_cases hl:0<b.length
 rotate_left
 ·have clc:decide (0<b.length)=false:=gN (by omega)
  have cla:decide ((0:Int)<(b.length:Int))=false:=gN (by omega);have clb:((0:Int)<(b.length:Int))=False:=eq_false (by omega)
  (try dsimp only)
  go_wp2
  (try simp only [Exit.inBlock,Exit.then])
  go_ret
  exact ⟨_,rfl,(by unfold bA.sp;rw [aq g7,av hl];exact bI.out),HB.out⟩
 have clc:decide (0<b.length)=true:=bN (by omega)
 have cla:decide ((0:Int)<(b.length:Int))=true:=bN (by omega);have clb:((0:Int)<(b.length:Int))=True:=eq_true (by omega);obtain ⟨gb,cap,hv,hgb,_,_⟩:=Kd.ue bI.out hl
 injection hv with h1 h2 h3
 subst h1 h3;obtain ⟨j,hj⟩:∃ j:Nat,(j:Int)=Int.tmod p9 (b.length:Int):=⟨(Int.tmod p9 (b.length:Int)).toNat,Int.toNat_of_nonneg (Int.tmod_nonneg _ HN.out.2.1)⟩
 have hjn:j<b.length:=by
  have h5:Int.tmod p9 (b.length:Int)<(b.length:Int):=Int.tmod_lt_of_pos _ (by omega)
  omega
 obtain ⟨hcb,hfb⟩:=Kd.QH (0:Int) bI.out (j:Int) (by omega) (by omega);have HCB:aa (Ir.cell? ⟨gb,j,none⟩=some (.int .u8 (rd b (j:Int)))):=⟨hcb⟩
 have HFB:aa (Ir.frozen? ⟨gb,j,none⟩=false):=⟨hfb⟩
 have HGB:=aa.mk hgb;have HJ7:aa (Value.int .i64 (Int.tmod p9 (b.length:Int))= .int .i64 (j:Int)):=⟨by rw [hj]⟩
 have HZ7:aa (¬ b=[]):=⟨fun e=>by rw [e] at hl;exact Nat.lt_irrefl 0 hl⟩
 have HS8:aa (0<=p8.tmod 8 /\ p8.tmod 8<=8):=⟨⟨Int.tmod_nonneg _ HN.out.1.1,by have:=Int.tmod_lt_of_pos p8 (show (0:Int)<8 by decide);omega⟩⟩
 have HJ9:aa (Int.tmod p9 (b.length:Int)=(j:Int)):=⟨hj.symm⟩
 have HWN:aa (wrap64 p9=p9):=⟨by have:=HN.out.2;unfold wrap64;omega⟩
 have HJ8:aa (((j:Int)<(b.length:Int))=True):=⟨eq_true (by omega)⟩
 have HSP:aa (bA.sp p8 p9 b=b.set j (Go.bits .xor .u8 (rd b (j:Int)) (IntKind.u8.wrap (2 ^ (p8.tmod 8).toNat)))):=⟨by unfold bA.sp;rw [aq g7,aq hl,<- hj,Int.toNat_natCast]⟩
 clear hcb hfb hgb hj hjn h2 hl g7
 go_upto_region 28 with (fail)
 clear g71 g72 cla clb clc yl;refine dB (n:=16) (S:=fun w'=>w'.cell? ⟨gp,9,none⟩=some (.int .u8 p9) /\ w'.cell? ⟨gp,8,none⟩=some (.int .u8 p8) /\ w'.cell? ⟨gb,j,none⟩=some (.int .u8 (rd b (j:Int)))) (ds:=[15]) #[false,false,false,false,false,false,false,false,false,false,false,false,false,false,false,false] (by kernel_rfl) rfl rfl ⟨(aN aZ.out 9).trans rfl,(aN aZ.out 8).trans rfl,HCB.out⟩ (fun hHeld=> ?_);refine bF bA.R28.tab bA.R28.bits (fun ax eu=> ?_);have hb:=bf (Below.refl Ir.heap.size Ir);have Zy:=aa.mk (show Ir.drew.cell? ⟨gb,j,none⟩=some (.int .u8 (rd b (j:Int))) from HCB.out);have Zz:=aa.mk (show Ir.drew.frozen? ⟨gb,j,none⟩=false from HFB.out);clear HCB HFB;have HCB:=Zy;have HFB:=Zz;clear Zy Zz;have ai:=hb
 replace HB:=mB HB ai;replace aZ:=mX aZ ai;replace bI:=mR bI ai;clear ai;clear hb;generalize Ir.drew=Ir at HB aZ bI HCB HFB hHeld|-
 refine pz 0 147 ax ?_;refine pz 1 148 ax ?_;refine pz 4 151 ax ?_;refine pz 5 152 ax ?_;refine pz 9 156 ax ?_;refine tz 2 149 ax eu hHeld ?_;refine pz 3 150 ax ?_;refine tg (i:=6) (N:=some 153) (v:= ?_) (a':= ?_) #[true,true,true,true,true,true,true,false,false,true,false,false,false,false,false,false] rfl rfl (rZ ax.out (by kernel_rfl)) (fun _ _ _ h=>h) (Or.inl ⟨by rfl, ?_⟩) ?_ ?_
 rotate_left
 ·intro w'
  have z7:=HZ7.out;have z8:=HWN.out
  go_simp
  first|exact HJ7.out|exact HJ9.out
 rotate_left
 ·simp only [pG]
  rfl
 refine tg (i:=7) (N:=some 154) (v:= ?_) (a':= ?_) #[true,true,true,true,true,true,true,true,false,true,false,false,false,false,false,false] rfl rfl (rZ ax.out (by kernel_rfl)) (fun _ _ _ h=>h) (Or.inl ⟨by rfl, ?_⟩) ?_ ?_
 rotate_left
 ·intro w'
  have z7:=HJ8.out
  go_simp
  with_reducible rfl
 rotate_left
 ·simp only [pG]
  rfl
 refine tz 8 155 ax eu hHeld ?_;refine tz 10 157 ax eu hHeld ?_;refine pz 11 158 ax ?_;refine tg (i:=12) (N:=some 159) (v:= ?_) (a':= ?_) #[true,true,true,true,true,true,true,true,true,true,true,true,true,false,false,false] rfl rfl (rZ ax.out (by kernel_rfl)) (fun _ _ _ h=>h) (Or.inl ⟨by rfl, ?_⟩) ?_ ?_
 rotate_left
 ·intro w'
  have z1:=HS8.out.1;have z2:=HS8.out.2
  go_simp
  with_reducible rfl
 rotate_left
 ·simp only [pG]
  rfl
 refine pz 13 160 ax ?_;refine tg (i:=14) (N:=some 161) (v:= ?_) (a':= ?_) #[true,true,true,true,true,true,true,true,true,true,true,true,true,true,true,false] rfl rfl (rZ ax.out (by kernel_rfl)) (fun _ _ _ h=>h) (Or.inl ⟨by rfl, ?_⟩) ?_ ?_
 rotate_left
 ·intro w'
  have z7:=HJ8.out
  go_simp
  with_reducible rfl
 rotate_left
 ·simp only [pG]
  rfl
 refine AeC (i:=15) (N:=none) #[true,true,true,true,true,true,true,true,true,true,true,true,true,true,true,true] rfl rfl (Gj ax.out (by kernel_rfl)) (by decide) (fun K hK=> ?_);have s0:=HCB.out;have LC:=HFB.out;refine wB (w1:=Ir.setCell ⟨gb,j,none⟩ (.int .u8 (Go.bits .xor .u8 (rd b (j:Int)) (IntKind.u8.wrap (2 ^ (p8.tmod 8).toNat))))) (by rfl) rfl ?_ ?_
 ·go_simp
 clear s0 LC;refine hK.out _ _ ?_;clear hK K;refine dz ax ?_;clear ax eu hHeld;have HB2:=aa.mk (Below.setCell (p:=⟨gb,j,none⟩) HB.out HGB.out (.int .u8 (Go.bits .xor .u8 (rd b (j:Int)) (IntKind.u8.wrap (2 ^ (p8.tmod 8).toNat)))));have HR2:=aa.mk (Kd.Dd bI.out (j:Int) (Go.bits .xor .u8 (rd b (j:Int)) (IntKind.u8.wrap (2 ^ (p8.tmod 8).toNat))));clear HB bI aZ HCB HFB
 (try dsimp only)
 go_wp2
 (try simp only [Exit.inBlock,Exit.then])
 go_ret
 rw [HSP.out];exact ⟨_,rfl,HR2.out,HB2.out⟩
def PL:List Int:=[69,0,0,28,0,0,64,0,64,1,32,209,10,0,0,1,8,8,8,8,8,0,244,23,3,232,0,0]
def Xq:List Int:=[69,0,0,28,0,0,64,0,64,1,58,223,0,0,0,1,0,0,0,2,8,0,247,246,0,9,0,0]
def k8D:List Int:=[69,0,0,28,0,0,64,0,63,1,33,209,10,0,0,1,8,8,8,8,8,0,244,23,3,232,0,0]
theorem Adj:bA.f 100 2 0 0 0 0 0 9 0 0 0 0 0=some PL:=by decide+kernel
def Xr:LK:=⟨0,64,1,0,2,0,167772161,134744072,[],[8,0,244,23,3,232,0,0],.zg 8 0 62487 65536000 [],1000,1000,0,[],0⟩
def k8s:LK:=⟨0,64,1,0,2,0,1,2,[],[8,0,247,246,0,9,0,0],.zg 8 0 63478 589824 [],9,9,0,[],0⟩
theorem Adk:Hl 100 Xr 1 9 2 9 (some [8,0,247,246,0,9,0,0])=some (Xq,0):=by decide+kernel
theorem AiR:pointed.f 100 1 9 2 9 (.zg 8 0 62487 65536000 [])=some [8,0,247,246,0,9,0,0]:=by decide+kernel
theorem Adl:qO.f 100 PL=some (k8D,0):=by decide+kernel
theorem AiS:da.f 100 PL=some (0,64,1,0,2,0,167772161,134744072,[],[8,0,244,23,3,232,0,0],0):=by kernel_rfl
theorem Adm:da.f 100 Xq=some (0,64,1,0,2,0,1,2,[],[8,0,247,246,0,9,0,0],0):=by kernel_rfl
theorem Adn:da.f 100 []=some (0,0,0,0,0,0,0,0,[],[],20):=by kernel_rfl
theorem AiT:nH 100 0 64 0 2 0 167772161 134744072 [] [8,0,244,23,3,232,0,0]=some Xr:=by kernel_rfl
theorem Ado:nH 100 0 64 0 2 0 1 2 [] [8,0,247,246,0,9,0,0]=some k8s:=by kernel_rfl
theorem ZA (A:Option Addr) (c:Nat) (hL:PL.length<=c) (w:World) (hC:Kd.C (Kd.int .u8) w A PL.length PL):Calls Try.prog 69 #[.slice A PL.length c] w fun e w'=>Xr.Post w.heap.size w e w':=look.G0 100 A c PL 0 64 0 2 0 167772161 134744072 [] [8,0,244,23,3,232,0,0] Xr w hC hL AiS AiT
theorem Adp (A:Option Addr) (c:Nat) (hL:Xq.length<=c) (w:World) (hC:Kd.C (Kd.int .u8) w A Xq.length Xq):Calls Try.prog 69 #[.slice A Xq.length c] w fun e w'=>k8s.Post w.heap.size w e w':=look.G0 100 A c Xq 0 64 0 2 0 1 2 [] [8,0,247,246,0,9,0,0] k8s w hC hL Adm Ado
theorem Adq (c:Nat) (w:World) (hC:Kd.C (Kd.int .u8) w none ([]:List Int).length []):Calls Try.prog 69 #[.slice none ([]:List Int).length c] w fun e w'=>(LK.err 20).Post w.heap.size w e w':=look.SZ 100 none c [] 0 0 0 0 0 0 0 0 [] [] 20 w hC (Nat.zero_le _) Adn (by decide)
theorem AiU (y:List Int) (hy:some [8,0,247,246,0,9,0,0]=some y) (w:World) (vx:Value) (base:Nat) (hv:Xr.x.V w base vx):Calls Try.prog 70 #[vx,.agg #[.int .u32 1,.int .u16 9],.agg #[.int .u32 2,.int .u16 9]] w fun e w'=>∃ vz:Value,e= .returned vz /\ Kd.R (Kd.int .u8) 5 w' w.heap.size (fun _=>True) vz y /\ Below w.heap.size w w':=by
 obtain rfl:=cN hy;obtain ⟨v4,rfl,h4⟩:=hv;exact pointed.Wd 100 1 9 2 9 8 0 62487 65536000 [] v4 _ w h4 AiR
theorem FT {P:Program} {o:Oper} {a:Act} {w:World} {b k:Nat} {ty:TypeId} {p:Operand} {cs:List Value} {d:TypeDesc} (ho:o.op= .load ty p) (hp:a.eval p= .pointer (some ⟨b,k,none⟩)) (hc:w.rangeAt b k cs) (hu:P.underlying ty=some d) (hd:d.isRow=true) (hi:(P.info? ty).map (·.size)=some cs.length):
  (execOp a.eval o).run P w= .ok (.value (.agg cs.toArray)) w:=by
 have h:=run_loadAt_mid (P:=P) w b k ty cs d hc hu hd hi;unfold execOp;simp only [ho,hp]
 simp [h,Sem.run_bind,Result.andThen]
def vP.R7.T:Bool×List (List Nat×List Nat):=(true,[([],[]),([],[]),([0,1],[0,1]),([],[]),([2,3],[2,3]),([],[]),([4,5],[4,5]),([6],[6]),([7],[7]),([8],[8]),([9,8],[8,9]),([8,10],[8,10]),([11,8],[11]),([12],[12]),([13,12],[12,13]),([14,12],[12,14]),([15,12],[12,15]),([12,16],[12,16]),([17,12],[17]),([18],[18]),([19,18],[18,19]),([18],[18]),([20,21,18],[18,20,21]),([18,22],[18,22]),([23,18],[23]),([24],[24]),([25,24],[24,25]),([24],[24]),([26,27,24],[24,26,27]),([24,28],[24,28]),([29,24],[29]),([30],[30]),([31,30],[30,31]),([30],[30]),([33,30],[30,33]),([32,34,30],[30,32,34]),([30,35],[30,35]),([36,30],[36]),([37],[37]),([38,37],[37,38]),([39,37],[37,39]),([37],[37]),([41,37],[37,41]),([42,37],[37,42]),([43,37],[37,43]),([40,44,37],[37,40,44]),([37,45],[37,45]),([46,37,0,1,2,3,4,5,6,7,8,9,10,11,12,13,14,15,16,17,18,19,20,21,22,23,24,25,26,27,28,29,30,31,32,33,34,35,36,37,38,39,40,41,42,43,44,45,46],[46])])
theorem vP.R7.tab:gB .any (opsOf Try.f30 7)=vP.R7.T:=by kernel_rfl
theorem vP.R7.bits:cS vP.R7.T.2 [0,0,3,0,15,0,63,127,255,511,1023,2047,4095,8191,16383,32767,65535,131071,262143,524287,1048575,524287,4194303,8388607,16777215,33554431,67108863,33554431,268435455,536870911,1073741823,2147483647,4294967295,2147483647,10737418239,34359738367,68719476735,137438953471,274877906943,549755813887,1099511627775,274877906943,2473901162495,6871947673599,15668040695807,35184372088831,70368744177663,140737488355327]=true:=by kernel_rfl
theorem vP.calls (w:World):Calls Try.prog 30 #[] w fun e w'=>e= .returned (.bool true) /\ Below w.heap.size w w':=by
 have mM:=Try.underlying65;have iW:=Try.underlying73;have mY:=Try.underlying76;have HB:=gI w;have iM:aa ((Try.prog.info? 65).map (·.size)=some 2):=⟨by kernel_rfl⟩
 have eN:aa ((Try.prog.info? 73).map (·.size)=some 10):=⟨by kernel_rfl⟩
 have iF:aa ((Try.prog.info? 76).map (·.size)=some 7):=⟨by kernel_rfl⟩
 go_enter Try.func30,Try.ntmps30
 go_wp2_with fail
 refine (bA.calls 100 2 0 0 0 0 0 9 0 0 0 0 0 PL _ ⟨⟨by decide,by decide⟩,by decide,by decide⟩ Adj).mono ?_;rintro ev w1 ⟨vb,rfl,ho,hb⟩;have bI:=aa.mk (Kd.bP ho (af HB.out));clear ho;have ai:=hb;replace HB:=mB HB ai;clear ai;clear hb;obtain ⟨gb,cb,rfl,hgb,_,_⟩:=Kd.ue bI.out (by decide);have HGb:=aa.mk hgb;clear hgb
 (try dsimp only)
 go_wp2_with fail
 refine (vL.via (some ⟨gb,0,none⟩) cb PL _ _ (Kd.ay bI.out).2.2 (Kd.ay bI.out).2.1 (ZA _ _ (Kd.ay bI.out).2.1)).mono ?_;rintro ev w2 hpost;obtain ⟨v8,v9,vi,rfl,E3,ym,hi,hb⟩:=hpost;obtain ⟨A8,c8,rfl,_,_⟩:=Kd.cj E3;obtain ⟨A9,c9,rfl,_,_⟩:=Kd.cj ym;obtain ⟨Aia,cia,rfl,_,_⟩:=Kd.cj hi;clear E3 ym hi;have ai:=hb;replace HB:=mB HB ai;replace bI:=mR bI ai;clear ai;clear hb;dsimp only [LK.err,Xr,k8s]
 go_upto_region 3 with (first|((with_reducible refine aA (N:=2) rfl ?_);refine aC ?fT (N:=2) ?iB (cs:=jL) (t:=73) ?eY ?_;(case iB=>rfl);(case fT=>rfl);(case eY=>first|(go_simp;done)|(go_simp;rfl));intro g1 bV w3 bw cB;have ZB:=aa.mk (show w.heap.size<=g1 by rw [bV];exact af HB.out);have H6:=aa.mk bw;have ai:=cB;replace HB:=mB HB ai;replace bI:=mR bI ai;clear ai;clear bV bw cB)|((with_reducible refine aA (N:=3) rfl ?_);refine aC ?fT (N:=3) ?iB (cs:=lN) (t:=76) ?eY ?_;(case iB=>rfl);(case fT=>rfl);(case eY=>first|(go_simp;done)|(go_simp;rfl));intro g2 bV w4 bw cB;have AiV:=aa.mk (show w.heap.size<=g2 by rw [bV];exact af HB.out);have ou:=aa.mk bw;have ai:=cB;replace HB:=mB HB ai;replace bI:=mR bI ai;replace H6:=mX H6 ai;clear ai;clear bV bw cB)|((refine dh rfl rfl rfl rfl rfl H6.out eN.out rfl (by simp [Value.oneCell']) ?_);intro w5 hs_ ag;replace bI:=oR ag bI H6 (by decide);replace ou:=oX ag ou H6 (by decide);replace HB:=oB ag HB ZB;clear ag;replace H6:=aa.mk hs_;clear hs_)|((refine dh rfl rfl rfl rfl rfl ou.out iF.out rfl (by simp [Value.oneCell']) ?_);intro w6 hs_ ag;replace bI:=oR ag bI ou (by decide);replace H6:=oX ag H6 ou (by decide);replace HB:=oB ag HB AiV;clear ag;replace ou:=aa.mk hs_;clear hs_))
 clear H6;clear ZB
 (try dsimp only)
 go_wp2_with fail
 refine (DT.via 100 (some ⟨gb,0,none⟩) cb PL Xr 1 9 2 9 _ Xq 0 _ (Kd.ay bI.out).2.2 (Kd.ay bI.out).2.1 (ZA _ _ (Kd.ay bI.out).2.1) AiU Adk).mono ?_;rintro ev w7 ⟨vc,rfl,ho,hb⟩;have Ms:=aa.mk (Kd.bP ho (af HB.out));clear ho;obtain ⟨Ac,cc,rfl,_,_⟩:=Kd.cj Ms.out;have ai:=hb;replace HB:=mB HB ai;replace bI:=mR bI ai;replace ou:=mX ou ai;clear ai;clear hb
 (try dsimp only)
 go_wp2_with fail
 refine (vL.via Ac cc Xq _ _ (Kd.ay Ms.out).2.2 (Kd.ay Ms.out).2.1 (Adp _ _ (Kd.ay Ms.out).2.1)).mono ?_;rintro ev w8 hpost;obtain ⟨v8,v9,vi,rfl,E3,ym,hi,hb⟩:=hpost;obtain ⟨A8,c8,rfl,_,_⟩:=Kd.cj E3;obtain ⟨A9,c9,rfl,_,_⟩:=Kd.cj ym;obtain ⟨Aib,cib,rfl,_,_⟩:=Kd.cj hi;clear E3 ym hi;have ai:=hb;replace HB:=mB HB ai;replace bI:=mR bI ai;replace ou:=mX ou ai;replace Ms:=mR Ms ai;clear ai;clear hb;dsimp only [LK.err,Xr,k8s]
 go_upto_region 5 with (first|((with_reducible refine aA (N:=7) rfl ?_);refine aC ?fT (N:=7) ?iB (cs:=jL) (t:=73) ?eY ?_;(case iB=>rfl);(case fT=>rfl);(case eY=>first|(go_simp;done)|(go_simp;rfl));intro g3 bV w9 bw cB;have ZC:=aa.mk (show w.heap.size<=g3 by rw [bV];exact af HB.out);have Ej:=aa.mk bw;have ai:=cB;replace HB:=mB HB ai;replace bI:=mR bI ai;replace ou:=mX ou ai;replace Ms:=mR Ms ai;clear ai;clear bV bw cB)|((with_reducible refine aA (N:=8) rfl ?_);refine aC ?fT (N:=8) ?iB (cs:=lN) (t:=76) ?eY ?_;(case iB=>rfl);(case fT=>rfl);(case eY=>first|(go_simp;done)|(go_simp;rfl));intro g4 bV ku bw cB;have AiW:=aa.mk (show w.heap.size<=g4 by rw [bV];exact af HB.out);have ur:=aa.mk bw;have H7:aa (g2≠g4):=⟨by rw [bV];exact (cW ou).out⟩;have ai:=cB;replace HB:=mB HB ai;replace bI:=mR bI ai;replace ou:=mX ou ai;replace Ms:=mR Ms ai;replace Ej:=mX Ej ai;clear ai;clear bV bw cB)|((refine dh rfl rfl rfl rfl rfl Ej.out eN.out rfl (by simp [Value.oneCell']) ?_);intro sn hs_ ag;replace bI:=oR ag bI Ej (by decide);replace ou:=oX ag ou Ej (by decide);replace Ms:=oR ag Ms Ej (by decide);replace ur:=oX ag ur Ej (by decide);replace HB:=oB ag HB ZC;clear ag;replace Ej:=aa.mk hs_;clear hs_)|((refine dh rfl rfl rfl rfl rfl ur.out iF.out rfl (by simp [Value.oneCell']) ?_);intro nP hs_ ag;replace bI:=oR ag bI ur (by decide);replace ou:=oN ag ou H7;replace Ms:=oR ag Ms ur (by decide);replace Ej:=oX ag Ej ur (by decide);replace HB:=oB ag HB AiW;clear ag;replace ur:=aa.mk hs_;clear hs_))
 clear Ej Ms;clear ZC
 (try dsimp only)
 go_wp2_with fail
 refine (vL.via none 0 [] _ _ (Kd.Dc _ _) (Nat.le_refl _) (Adq _)).mono ?_;rintro ev yD hpost;obtain ⟨v8,v9,vi,rfl,E3,ym,hi,hb⟩:=hpost;obtain ⟨A8,c8,rfl,_,_⟩:=Kd.cj E3;obtain ⟨A9,c9,rfl,_,_⟩:=Kd.cj ym;obtain ⟨Aic,cic,rfl,_,_⟩:=Kd.cj hi;clear E3 ym hi;have ai:=hb;replace HB:=mB HB ai;replace bI:=mR bI ai;replace ou:=mX ou ai;replace ur:=mX ur ai;clear ai;clear hb;dsimp only [LK.err,Xr,k8s]
 go_upto_region 6 with (first|((with_reducible refine aA (N:=10) rfl ?_);refine aC ?fT (N:=10) ?iB (cs:=jL) (t:=73) ?eY ?_;(case iB=>rfl);(case fT=>rfl);(case eY=>first|(go_simp;done)|(go_simp;rfl));intro g5 bV qY bw cB;have ZE:=aa.mk (show w.heap.size<=g5 by rw [bV];exact af HB.out);have Ek:=aa.mk bw;have ai:=cB;replace HB:=mB HB ai;replace bI:=mR bI ai;replace ou:=mX ou ai;replace ur:=mX ur ai;clear ai;clear bV bw cB)|((with_reducible refine aA (N:=11) rfl ?_);refine aC ?fT (N:=11) ?iB (cs:=lN) (t:=76) ?eY ?_;(case iB=>rfl);(case fT=>rfl);(case eY=>first|(go_simp;done)|(go_simp;rfl));intro g6 bV BX bw cB;have ZF:=aa.mk (show w.heap.size<=g6 by rw [bV];exact af HB.out);have Mt:=aa.mk bw;have H8:aa (g2≠g6):=⟨by rw [bV];exact (cW ou).out⟩;have H9:aa (g4≠g6):=⟨by rw [bV];exact (cW ur).out⟩;have ai:=cB;replace HB:=mB HB ai;replace bI:=mR bI ai;replace ou:=mX ou ai;replace ur:=mX ur ai;replace Ek:=mX Ek ai;clear ai;clear bV bw cB)|((refine dh rfl rfl rfl rfl rfl Ek.out eN.out rfl (by simp [Value.oneCell']) ?_);intro qJ hs_ ag;replace bI:=oR ag bI Ek (by decide);replace ou:=oX ag ou Ek (by decide);replace ur:=oX ag ur Ek (by decide);replace Mt:=oX ag Mt Ek (by decide);replace HB:=oB ag HB ZE;clear ag;replace Ek:=aa.mk hs_;clear hs_)|((refine dh rfl rfl rfl rfl rfl Mt.out iF.out rfl (by simp [Value.oneCell']) ?_);intro Fa hs_ ag;replace bI:=oR ag bI Mt (by decide);replace ou:=oN ag ou H8;replace ur:=oN ag ur H9;replace Ek:=oX ag Ek Mt (by decide);replace HB:=oB ag HB ZF;clear ag;replace Mt:=aa.mk hs_;clear hs_))
 clear Ek Mt;clear ZE ZF
 (try dsimp only)
 go_wp2_with fail
 refine (qO.calls 100 (some ⟨gb,0,none⟩) cb PL k8D 0 _ (Kd.ay bI.out).2.2 (Kd.ay bI.out).2.1 Adl).mono ?_;rintro ev Vb ⟨vd,rfl,ho,hb⟩;have HRd:=aa.mk (Kd.bP ho (af HB.out));clear ho;have ai:=hb;replace HB:=mB HB ai;replace bI:=mR bI ai;replace ou:=mX ou ai;replace ur:=mX ur ai;clear ai;clear hb;obtain ⟨gd,cd,rfl,hgd,_,_⟩:=Kd.ue HRd.out (by decide);have HGd:=aa.mk hgd;clear hgd
 (try dsimp only)
 go_upto_region 7 with (fail)
 have HSb:aa (Vb.cell? ⟨gb,8,none⟩=some (.int .u8 64)):=⟨(Kd.lg (0:Int) bI.out ((8:Nat):Int) (by decide) (by decide)).1⟩
 have HSd:aa (Vb.cell? ⟨gd,8,none⟩=some (.int .u8 63)):=⟨(Kd.lg (0:Int) HRd.out ((8:Nat):Int) (by decide) (by decide)).1⟩
 refine dB (n:=48) (S:=fun w'=>w'.heap[g2]?=some (.cells #[.int .u8 1,.int .u32 167772161,.int .u16 1000,.int .u32 134744072,.int .u16 1000,.int .u8 0,.slice Aia ([]:List ng).length cia] 76 (0,0)) /\ w'.heap[g4]?=some (.cells #[.int .u8 1,.int .u32 1,.int .u16 9,.int .u32 2,.int .u16 9,.int .u8 0,.slice Aib ([]:List ng).length cib] 76 (0,0)) /\ w'.cell? ⟨gb,8,none⟩=some (.int .u8 64) /\ w'.cell? ⟨gd,8,none⟩=some (.int .u8 63)) (ds:=[]) #[false,false,false,false,false,false,false,false,false,false,false,false,false,false,false,false,false,false,false,false,false,false,false,false,false,false,false,false,false,false,false,false,false,false,false,false,false,false,false,false,false,false,false,false,false,false,false,false] (by kernel_rfl) rfl rfl ⟨ou.out,ur.out,HSb.out,HSd.out⟩ (fun hHeld=> ?_)
 refine bF vP.R7.tab vP.R7.bits (fun ax eu=> ?_);have ai:=bf (Below.refl Vb.heap.size Vb);have gY:=aa.mk (au HB.out ai);clear HB ai;have HB:=gY;clear gY;refine pz 0 46 ax ?_;refine pz 1 47 ax ?_;refine pv 2 48 (.int .i64 0) ax ?_ ?_
 ·intro w'
  first|(go_simp;done)|(go_simp;rfl)|(go_simp;decide)
 refine nz 48 ?_;refine pz 3 49 ax ?_;refine pv 4 50 (.int .i64 0) ax ?_ ?_
 ·intro w'
  first|(go_simp;done)|(go_simp;rfl)|(go_simp;decide)
 refine nz 50 ?_;refine pz 5 51 ax ?_;refine pv 6 52 (.int .i64 0) ax ?_ ?_
 ·intro w'
  first|(go_simp;done)|(go_simp;rfl)|(go_simp;decide)
 refine nz 52 ?_;refine pv 7 53 (.bool true) ax ?_ ?_
 ·intro w'
  first|(go_simp;done)|(go_simp;rfl)|(go_simp;decide)
 refine nz 53 ?_;refine pz 8 54 ax ?_;refine pz 9 55 ax ?_;refine pv 10 56 (.bool true) ax ?_ ?_
 ·intro w'
  first|(go_simp;done)|(go_simp;rfl)|(go_simp;decide)
 refine nz 56 ?_;refine pv 11 57 (.bool true) ax ?_ ?_
 ·intro w'
  first|(go_simp;done)|(go_simp;rfl)|(go_simp;decide)
 refine nz 57 ?_;refine pz 12 58 ax ?_;refine pz 13 59 ax ?_;refine pz 14 60 ax ?_;refine gF (i:=15) (N:=some 61) (v:= ?_) (a':= ?_) #[true,true,true,true,true,true,true,true,true,true,true,true,true,true,true,true,false,false,false,false,false,false,false,false,false,false,false,false,false,false,false,false,false,false,false,false,false,false,false,false,false,false,false,false,false,false,false,false] rfl rfl (dm ax.out eu.out (by kernel_rfl)) (fun _ _ _ h=>h) (Or.inl ⟨by rfl, ?_⟩) hHeld ?_ ?_
 rotate_left
 ·intro w' s0
  obtain ⟨s0,s1,s2,s3⟩:=s0;have Za:=(aN s0 2).trans (rfl:_=some (.int .u16 1000:Value))
  go_simp
  with_reducible rfl
 rotate_left
 ·simp only [pG]
  rfl
 refine pv 16 62 (.bool true) ax ?_ ?_
 ·intro w'
  first|(go_simp;done)|(go_simp;rfl)|(go_simp;decide)
 refine nz 62 ?_;refine pv 17 63 (.bool true) ax ?_ ?_
 ·intro w'
  first|(go_simp;done)|(go_simp;rfl)|(go_simp;decide)
 refine nz 63 ?_;refine pz 18 64 ax ?_;refine pz 19 65 ax ?_;refine pz 21 67 ax ?_;refine tv 20 66 (.agg #[.int .u32 1,.int .u16 9]) ax eu hHeld ?_ ?_
 ·intro w' s0
  obtain ⟨s0,s1,s2,s3⟩:=s0;exact FT (p:= .tmp 65) (ty:=65) (cs:=[.int .u32 1,.int .u16 9]) (by rfl) (by rfl) (World.rangeAt_of_block s1 1 2) mM (by rfl) iM.out
 refine nz 66 ?_;refine pv 22 68 (.bool true) ax ?_ ?_
 ·intro w'
  first|(go_simp;done)|(go_simp;rfl)|(go_simp;decide)
 refine nz 68 ?_;refine pv 23 69 (.bool true) ax ?_ ?_
 ·intro w'
  first|(go_simp;done)|(go_simp;rfl)|(go_simp;decide)
 refine nz 69 ?_;refine pz 24 70 ax ?_;refine pz 25 71 ax ?_;refine pz 27 73 ax ?_;refine tv 26 72 (.agg #[.int .u32 2,.int .u16 9]) ax eu hHeld ?_ ?_
 ·intro w' s0
  obtain ⟨s0,s1,s2,s3⟩:=s0;exact FT (p:= .tmp 71) (ty:=65) (cs:=[.int .u32 2,.int .u16 9]) (by rfl) (by rfl) (World.rangeAt_of_block s1 3 2) mM (by rfl) iM.out
 refine nz 72 ?_;refine pv 28 74 (.bool true) ax ?_ ?_
 ·intro w'
  first|(go_simp;done)|(go_simp;rfl)|(go_simp;decide)
 refine nz 74 ?_;refine pv 29 75 (.bool true) ax ?_ ?_
 ·intro w'
  first|(go_simp;done)|(go_simp;rfl)|(go_simp;decide)
 refine nz 75 ?_;refine pz 30 76 ax ?_;refine pz 31 77 ax ?_;refine pz 32 78 ax ?_;refine pz 33 79 ax ?_;refine pz 34 80 ax ?_;refine pv 35 81 (.bool true) ax ?_ ?_
 ·intro w'
  first|(go_simp;done)|(go_simp;rfl)|(go_simp;decide)
 refine nz 81 ?_;refine pv 36 82 (.bool true) ax ?_ ?_
 ·intro w'
  first|(go_simp;done)|(go_simp;rfl)|(go_simp;decide)
 refine nz 82 ?_;refine pz 37 83 ax ?_;refine pz 38 84 ax ?_;refine tg (i:=39) (N:=some 85) (v:= ?_) (a':= ?_) #[true,true,true,true,true,true,true,true,true,true,true,true,true,true,true,true,true,true,true,true,true,true,true,true,true,true,true,true,true,true,true,true,true,true,true,true,true,true,true,true,false,false,false,false,false,false,false,false] rfl rfl (rZ ax.out (by kernel_rfl)) (fun _ _ _ h=>h) (Or.inl ⟨by rfl, ?_⟩) ?_ ?_
 rotate_left
 ·intro w'
  have z_:((8:Int)<(k8D.length:Int))=True:=eq_true (by decide)
  go_simp
  with_reducible rfl
 rotate_left
 ·simp only [pG]
  rfl
 refine pz 41 87 ax ?_;refine tg (i:=42) (N:=some 88) (v:= ?_) (a':= ?_) #[true,true,true,true,true,true,true,true,true,true,true,true,true,true,true,true,true,true,true,true,true,true,true,true,true,true,true,true,true,true,true,true,true,true,true,true,true,true,true,true,false,true,true,false,false,false,false,false] rfl rfl (rZ ax.out (by kernel_rfl)) (fun _ _ _ h=>h) (Or.inl ⟨by rfl, ?_⟩) ?_ ?_
 rotate_left
 ·intro w'
  have z_:((8:Int)<(PL.length:Int))=True:=eq_true (by decide)
  go_simp
  with_reducible rfl
 rotate_left
 ·simp only [pG]
  rfl
 refine tz 40 86 ax eu hHeld ?_;refine tz 43 89 ax eu hHeld ?_;refine pv 44 90 (.int .u8 63) ax ?_ ?_
 ·intro w'
  first|(go_simp;done)|(go_simp;rfl)|(go_simp;decide)
 refine nz 90 ?_;refine pv 45 91 (.bool true) ax ?_ ?_
 ·intro w'
  first|(go_simp;done)|(go_simp;rfl)|(go_simp;decide)
 refine nz 91 ?_;refine pv 46 92 (.bool true) ax ?_ ?_
 ·intro w'
  first|(go_simp;done)|(go_simp;rfl)|(go_simp;decide)
 refine nz 92 ?_;refine pz 47 0 ax ?_;refine dz ax ?_;clear ax eu hHeld
 (try dsimp only)
 go_wp2
 (try simp only [Exit.inBlock,Exit.then])
 go_ret
 exact ⟨by first|rfl|decide,HB.out⟩
attribute [local go_sem] dI dJ eI eJ cO cP dK dL
def aT.f (l0:List Int) (a1:Int):Option (Int):=if 0<=a1 then (if a1<(l0.length:Int) then (if 0<=(wrap64 (a1+1)) then (if (wrap64 (a1+1))<(l0.length:Int) then (some (Go.bits .or .u16 (IntKind.u16.wrap ((IntKind.u16.wrap (rd l0 a1))*256)) (IntKind.u16.wrap (rd l0 (wrap64 (a1+1)))))) else (none)) else (none)) else (none)) else (none)
theorem aT.calls (A0:Option Addr) (c0:Nat) (l0:List Int) (a1:Int) (r:Int) (w:World) (hr0:Kd.C (Kd.int .u8) w A0 l0.length l0) (hc0:l0.length<=c0) (h:aT.f l0 a1=some r):
  Calls Try.prog 64 #[.slice A0 l0.length c0,.int .i64 a1] w fun e w'=>e= .returned (.int .u16 r) /\ bB w w':=by
 have gj:=aa.mk hr0;have jx:=aa.mk hc0;clear hr0 hc0;have H:(if 0<=a1 then (if a1<(l0.length:Int) then (if 0<=(wrap64 (a1+1)) then (if (wrap64 (a1+1))<(l0.length:Int) then (some (Go.bits .or .u16 (IntKind.u16.wrap ((IntKind.u16.wrap (rd l0 a1))*256)) (IntKind.u16.wrap (rd l0 (wrap64 (a1+1)))))) else (none)) else (none)) else (none)) else (none))=some r:=h;clear h
 by_cases c3:0<=a1
 rotate_left
 ·rw [av c3] at H
  cases H
 rw [aq c3] at H
 have oJ:decide (0<=a1)=true:=bN c3;clear c3
 by_cases c4:a1<(l0.length:Int)
 rotate_left
 ·rw [av c4] at H
  cases H
 rw [aq c4] at H
 have mw:decide (a1<(l0.length:Int))=true:=bN c4;clear c4;obtain ⟨wZ,zR⟩:∃ j_:Int,(wrap64 (a1+1))=j_:=⟨_,rfl⟩
 replace H:(if 0<=(wZ) then (if (wZ)<(l0.length:Int) then (some (Go.bits .or .u16 (IntKind.u16.wrap ((IntKind.u16.wrap (rd l0 a1))*256)) (IntKind.u16.wrap (rd l0 (wZ))))) else (none)) else (none))=some r:=by first|(rw [zR] at H;exact H)|(simp only [zR] at H|-;exact H)
 have Yd:(IntKind.i64.wrap (a1+1))=wZ:=(gK _).trans zR
 by_cases c6:0<=(wZ)
 rotate_left
 ·rw [av c6] at H
  cases H
 rw [aq c6] at H
 have um:decide (0<=(wZ))=true:=bN c6;clear c6
 by_cases c7:(wZ)<(l0.length:Int)
 ·rw [aq c7] at H
  have AV:decide ((wZ)<(l0.length:Int))=true:=bN c7;clear c7;obtain rfl:=cN H;have Adr:0<=(a1:Int):=gA;have Ads:a1<(l0.length:Int):=gA;obtain ⟨AiX,Aqu,Al0⟩:=Kd.dG gj.out a1 Adr Ads
  cases Aqu
  replace Adr:=eq_true Adr;replace Ads:=eq_true Ads;have Adt:0<=((wZ):Int):=gA;have Adu:(wZ)<(l0.length:Int):=gA;obtain ⟨AiY,Aqv,Al1⟩:=Kd.dG gj.out (wZ) Adt Adu;obtain rfl:AiX=AiY:=(by injection Aqv)
  replace Adt:=eq_true Adt;replace Adu:=eq_true Adu
  go_enter Try.func64,Try.ntmps64
  go_wp2
  repeat (go_quiet (fail);try go_wp2)
  go_ret
  exact ⟨by first|rfl|(simp;done)|(simp only [<- zR]<;>(first|rfl|simp))|(simp [*];done),by repeat (first|exact bB.refl _|apply bB.step)⟩
 rw [av c7] at H
 cases H
def eA.f (l0:List Int) (a1:Int) (a2:Int):Option (List Int):=if 0<=a1 then (if a1<=a2 then (if a2<=(l0.length:Int) then (if ([]:List Int).length+((l0.take (a2:Int).toNat).drop (a1:Int).toNat).length<140737488355328 then (some (([]:List Int)++((l0.take (a2:Int).toNat).drop (a1:Int).toNat))) else (none)) else (none)) else (none)) else (none)
theorem eA.calls (A0:Option Addr) (c0:Nat) (l0:List Int) (a1:Int) (a2:Int) (r:List Int) (w:World) (hr0:Kd.C (Kd.int .u8) w A0 l0.length l0) (hc0:l0.length<=c0) (h:eA.f l0 a1 a2=some r):
  Calls Try.prog 65 #[.slice A0 l0.length c0,.int .i64 a1,.int .i64 a2] w fun e w'=>∃ oW:Value,e= .returned (oW) /\ Kd.R (Kd.int .u8) 5 w' w.heap.size (fun _=>True) oW r /\ Below w.heap.size w w':=by
 have gj:=aa.mk hr0;have jx:=aa.mk hc0;clear hr0 hc0;have HB:=gI w;have H:(if 0<=a1 then (if a1<=a2 then (if a2<=(l0.length:Int) then (if ([]:List Int).length+((l0.take (a2:Int).toNat).drop (a1:Int).toNat).length<140737488355328 then (some (([]:List Int)++((l0.take (a2:Int).toNat).drop (a1:Int).toNat))) else (none)) else (none)) else (none)) else (none))=some r:=h;clear h
 by_cases c4:0<=a1
 rotate_left
 ·rw [av c4] at H
  cases H
 rw [aq c4] at H
 have mw:=eq_true c4;have yh:decide (0<=a1)=true:=bN c4;clear c4
 by_cases c5:a1<=a2
 rotate_left
 ·rw [av c5] at H
  cases H
 rw [aq c5] at H
 have mJ:=eq_true c5;have qn:decide (a1<=a2)=true:=bN c5;clear c5
 by_cases c6:a2<=(l0.length:Int)
 ·rw [aq c6] at H
  have um:=eq_true c6;have OZ:decide (a2<=(l0.length:Int))=true:=bN c6;clear c6
  by_cases c7:([]:List Int).length+((l0.take (a2:Int).toNat).drop (a1:Int).toNat).length<140737488355328
  ·rw [aq c7] at H
   have Gp:=aa.mk c7;clear c7;obtain ⟨AxO,Ub⟩:∃ y_:List Int,y_=(([]:List Int)++((l0.take (a2:Int).toNat).drop (a1:Int).toNat)):=⟨_,rfl⟩
   rw [<- Ub] at H
   have AiZ:=aa.mk Ub;clear Ub;obtain rfl:=cN H;obtain ⟨i08,Ai0,_,Ai1,_⟩:=info_parts fY;obtain ⟨A8,At6,hA8,hC8⟩:=uN (P:=Try.prog) (Value.int .u8) 0 23 5 .i64 .i64 Try.underlying23 Ai0 Ai1 A0 c0 l0 a1 a2 gA (by first|omega|exact gA) gA jx.out;have ZG:=aa.mk (Kd.dH (h1:=fun _=>rfl) (hA8 _ (Kd.dw gj.out)));have At9:=aa.mk hC8;clear hA8 hC8 Ai0 Ai1
   go_enter Try.func65,Try.ntmps65
   go_wp2_with (first|((with_reducible refine fB (b:= .append) (xs:= #[.const (.slice none 0 0),.tmp 10]) rfl ?_);at_builtin;refine Kd.gz (Kd.int .u8) (w0:=w) w.heap.size rfl (.const (.slice none 0 0)) (.tmp 10) 23 5 (.int .u8 0) 1 rfl Try.underlying23 fY rfl (by decide) (by omega) (.slice none 0 0) ([]:List Int) ((l0.take (a2:Int).toNat).drop (a1:Int).toNat) _ _ _ (fun _=>True) (fun _=>False) rfl rfl ?aO ?aR (fun _ _ h=>h) (fun _ h=>h.elim) ?aF ?aB ?aS ?aL ?_;(case aR=>first|(rw [<- show ((l0.take (a2:Int).toNat).drop (a1:Int).toNat).length=(a2.toNat - a1.toNat) from (by rw [List.length_drop,List.length_take];have h_:(a2:Int)<=(l0.length:Int):=gA;omega)];repeat (first|exact ZG.out|(with_reducible refine Kd.fH ?_ _)|(with_reducible refine Kd.fz ?_ _)|(with_reducible refine Kd.gQ ?_)))|(repeat (first|exact ZG.out|(with_reducible refine Kd.fH ?_ _)|(with_reducible refine Kd.fz ?_ _)|(with_reducible refine Kd.gQ ?_))));(case aB=>exact bz HB);(case aF=>exact (fun _ _=>trivial));(case aO=>exact ((Kd.bX _ _ _ _ (fun _=>True))));(case aS=>exact (af (bz HB)));(case aL=>have:=Gp.out;have AxP:=(show ((l0.take (a2:Int).toNat).drop (a1:Int).toNat).length=(a2.toNat - a1.toNat) from (by rw [List.length_drop,List.length_take];have h_:(a2:Int)<=(l0.length:Int):=gA;omega));omega);intro AxQ w9 ho hb hg hat;rw [<- AiZ.out] at ho;have aH:=aa.mk (hb);have aK:=aa.mk (ho);clear HB;have HB:=aH;have Ai2:=aK;clear aH aK;clear ho hb hg hat))
   go_ret
   exact ⟨_,by first|rfl|(simp [aj,ak]<;>rfl)|(simp [*,aj,ak]<;>rfl),by (with_reducible repeat (first|apply Kd.fg|apply Kd.eV|apply Kd.fj));exact Ai2.out,bz HB⟩
  rw [av c7] at H
  cases H
 rw [av c6] at H
 cases H
attribute [local go_sem] dI dJ eI eJ cO cP dK dL
def dN.f (l0:List Int) (a1:Int):Option (Int):=(aT.f l0 a1).bind fun Uc=>((aT.f l0 (wrap64 (a1+2))).bind fun Ud=>(some (Go.bits .or .u32 ((((Uc) % 4294967296)*65536) % 4294967296) ((Ud) % 4294967296))))
theorem dN.calls (A0:Option Addr) (c0:Nat) (l0:List Int) (a1:Int) (r:Int) (w:World) (hr0:Kd.C (Kd.int .u8) w A0 l0.length l0) (hc0:l0.length<=c0) (h:dN.f l0 a1=some r):
  Calls Try.prog 81 #[.slice A0 l0.length c0,.int .i64 a1] w fun e w'=>e= .returned (.int .u32 r) /\ bB w w':=by
 have gj:=aa.mk hr0;have jx:=aa.mk hc0;clear hr0 hc0;have H:((aT.f l0 a1).bind fun Uc=>((aT.f l0 (wrap64 (a1+2))).bind fun Ud=>(some (Go.bits .or .u32 ((((Uc) % 4294967296)*65536) % 4294967296) ((Ud) % 4294967296)))))=some r:=h;clear h;replace H:=dc H;obtain ⟨Uc,wK,H⟩:=H
 (try dsimp -simprocs only at H)
 have A3:=aa.mk wK;clear wK;replace H:=dc H;obtain ⟨Ud,qo,H⟩:=H
 (try dsimp -simprocs only at H)
 have A4:=aa.mk qo;clear qo;obtain rfl:=cN H
 go_enter Try.func81,Try.ntmps81
 go_wp2_with (first|((with_reducible refine az (f:=64) rfl ?_);refine gL 7 Try.func64 #[.slice A0 l0.length c0,.int .i64 a1] ?_;(with_reducible refine (aT.calls _ _ l0 a1 Uc _ ?aE ?aG A3.out).mono ?_);(case aE=>repeat (first|exact gj.out|(with_reducible refine Kd.fH ?_ _)|(with_reducible refine Kd.fz ?_ _)|(with_reducible refine Kd.gQ ?_)));(case aG=>exact jx.out);rintro e w' ⟨rfl,⟨nd,rfl⟩⟩;refine ⟨_,rfl, ?_⟩)|((with_reducible refine az (f:=64) rfl ?_);refine gL 13 Try.func64 #[.slice A0 l0.length c0,.int .i64 (wrap64 (a1+2))] ?_;(with_reducible refine (aT.calls _ _ l0 (wrap64 (a1+2)) Ud _ ?aE ?aG A4.out).mono ?_);(case aE=>repeat (first|exact gj.out|(with_reducible refine Kd.fH ?_ _)|(with_reducible refine Kd.fz ?_ _)|(with_reducible refine Kd.gQ ?_)));(case aG=>exact jx.out);rintro e w' ⟨rfl,⟨nd,rfl⟩⟩;refine ⟨_,rfl, ?_⟩))
 go_ret
 exact ⟨by first|rfl|(simp;done)|(simp [*];done),by repeat (first|exact bB.refl _|apply bB.step)⟩
attribute [local go_sem] dI dJ eI eJ cO cP dK dL
def gT.f (l0:List Int):Option (Int×Int×Int×Int×Int×Int×Int×Int×List Int×List Int×Int):=if (l0.length:Int)<20 then (some (0,0,0,0,0,0,0,0,([]:List Int),([]:List Int),20)) else (if 12<(l0.length:Int) then (if (wrap64 ((wrap64 ((rd l0 12) / 16))*4))<20 then (some (0,0,0,0,0,0,0,0,([]:List Int),([]:List Int),21)) else (if (l0.length:Int)<(wrap64 ((wrap64 ((rd l0 12) / 16))*4)) then (some (0,0,0,0,0,0,0,0,([]:List Int),([]:List Int),20)) else ((aT.f l0 0).bind fun xG=>((aT.f l0 2).bind fun yF=>((dN.f l0 4).bind fun zk=>((dN.f l0 8).bind fun Ar=>(if 13<(l0.length:Int) then ((aT.f l0 14).bind fun Cn=>((aT.f l0 16).bind fun El=>((aT.f l0 18).bind fun Fj=>((eA.f l0 20 (wrap64 ((wrap64 ((rd l0 12) / 16))*4))).bind fun Ia=>((eA.f l0 (wrap64 ((wrap64 ((rd l0 12) / 16))*4)) (l0.length:Int)).bind fun Kx=>(some (xG,yF,zk,Ar,rd l0 13,Cn,El,Fj,Ia,Kx,0))))))) else (none)))))))) else (none))
def gT.T8:Bool×List (List Nat×List Nat):=(true,[([],[]),([0],[0]),([],[]),([2,1],[2]),([],[]),([4,3],[4]),([],[]),([6,5],[6]),([],[]),([8],[8]),([9],[9]),([],[]),([11,7],[11]),([],[]),([13,12],[13]),([],[]),([15,14],[15]),([],[]),([],[]),([17,18,16],[17,18]),([],[]),([],[]),([],[]),([22],[22]),([20,21,23,19],[20,21,23]),([1,3,5,7,10,12,14,16,19,24],[1,3,5,7,10,12,14,16,19,24]),([25,24,0,1,2,3,4,5,6,7,8,9,10,11,12,13,14,15,16,17,18,19,20,21,22,23,24,25],[25]),([26,0,1,2,3,4,5,6,7,8,9,10,11,12,13,14,15,16,17,18,19,20,21,22,23,24,25,26],[])])
def gT.B8:List Nat:=[0,1,0,7,0,31,0,127,0,256,768,0,2303,0,14591,0,63743,0,0,522495,0,0,0,4194304,16775423,33554431,67108863,134217727]
theorem gT.EZ:gB .any (opsOf Try.f73 8)=gT.T8:=by kernel_rfl
theorem gT.yK:cS gT.T8.2 gT.B8=true:=by kernel_rfl
theorem gT.calls (A0:Option Addr) (c0:Nat) (l0:List Int) (r1:Int) (r2:Int) (r3:Int) (r4:Int) (r5:Int) (r6:Int) (r7:Int) (r8:Int) (r9:List Int) (uL:List Int) (Ct:Int) (w:World) (hr0:Kd.C (Kd.int .u8) w A0 l0.length l0) (hc0:l0.length<=c0) (h:gT.f l0=some (r1,r2,r3,r4,r5,r6,r7,r8,r9,uL,Ct)):
  Calls Try.prog 73 #[.slice A0 l0.length c0] w fun e w'=>∃ Cv Cw:Value,e= .returned (.tuple #[.agg #[.int .u16 r1,.int .u16 r2,.int .u32 r3,.int .u32 r4,.int .u8 r5,.int .u16 r6,.int .u16 r7,.int .u16 r8,Cv,Cw],.int .i64 Ct]) /\ Kd.R (Kd.int .u8) 5 w' w.heap.size (fun k_=>some k_≠(Cw:Value).ownBlock) Cv r9 /\ Kd.R (Kd.int .u8) 5 w' w.heap.size (fun k_=>some k_≠(Cv:Value).ownBlock) Cw uL /\ Below w.heap.size w w':=by
 have uC:=Try.underlying137;have gj:=aa.mk hr0;have jx:=aa.mk hc0;clear hr0 hc0;have HB:=gI w
 have H:(if (l0.length:Int)<20 then (some (0,0,0,0,0,0,0,0,([]:List Int),([]:List Int),20)) else (if 12<(l0.length:Int) then (if (wrap64 ((wrap64 ((rd l0 12) / 16))*4))<20 then (some (0,0,0,0,0,0,0,0,([]:List Int),([]:List Int),21)) else (if (l0.length:Int)<(wrap64 ((wrap64 ((rd l0 12) / 16))*4)) then (some (0,0,0,0,0,0,0,0,([]:List Int),([]:List Int),20)) else ((aT.f l0 0).bind fun xG=>((aT.f l0 2).bind fun yF=>((dN.f l0 4).bind fun zk=>((dN.f l0 8).bind fun Ar=>(if 13<(l0.length:Int) then ((aT.f l0 14).bind fun Cn=>((aT.f l0 16).bind fun El=>((aT.f l0 18).bind fun Fj=>((eA.f l0 20 (wrap64 ((wrap64 ((rd l0 12) / 16))*4))).bind fun Ia=>((eA.f l0 (wrap64 ((wrap64 ((rd l0 12) / 16))*4)) (l0.length:Int)).bind fun Kx=>(some (xG,yF,zk,Ar,rd l0 13,Cn,El,Fj,Ia,Kx,0))))))) else (none)))))))) else (none)))=some (r1,r2,r3,r4,r5,r6,r7,r8,r9,uL,Ct):=h
 clear h
 by_cases c2:(l0.length:Int)<20
 ·rw [aq c2] at H
  have j4:decide ((l0.length:Int)<20)=true:=bN c2;have mq:decide (l0.length<20)=true:=bN (by omega);clear c2;simp only [Option.some.injEq,Prod.mk.injEq] at H
  obtain ⟨rfl,rfl,rfl,rfl,rfl,rfl,rfl,rfl,rfl,rfl,rfl⟩:=H
  go_enter Try.func73,Try.ntmps73
  go_wp2_with (first|((with_reducible refine aA (N:=2) rfl ?_);refine aC ?hg (N:=2) ?hd (cs:=qf) (t:=137) ?hr ?_;(case hd=>rfl);(case hg=>rfl);(case hr=>first|(go_simp;done)|(go_simp;rfl));intro eX hg w3 bJ hb;have aH:=aa.mk (au (bz HB) hb);have aK:=aa.mk (bJ);have bt:=aa.mk ((by rw [hg];exact (af (bz HB)):w.heap.size<=eX));have cC:=aa.mk ((by rw [hg];exact (af (bz HB)):w.heap.size<=eX));clear HB;have HB:=aH;have eE:=aK;have nJ:=bt;have Ue:=cC;clear aH aK bt cC;clear hb bJ hg;have pK:w3.cell? ⟨eX,0,none⟩=some (.int .u16 0):=cz eE.out 0 rfl;have pL:w3.cell? ⟨eX,1,none⟩=some (.int .u16 0):=cz eE.out 1 rfl;have pM:w3.cell? ⟨eX,2,none⟩=some (.int .u32 0):=cz eE.out 2 rfl;have pN:w3.cell? ⟨eX,3,none⟩=some (.int .u32 0):=cz eE.out 3 rfl;have uj:w3.cell? ⟨eX,4,none⟩=some (.int .u8 0):=cz eE.out 4 rfl;have G4:w3.cell? ⟨eX,5,none⟩=some (.int .u16 0):=cz eE.out 5 rfl;have G5:w3.cell? ⟨eX,6,none⟩=some (.int .u16 0):=cz eE.out 6 rfl;have G6:w3.cell? ⟨eX,7,none⟩=some (.int .u16 0):=cz eE.out 7 rfl;have G7:w3.cell? ⟨eX,8,none⟩=some (.slice none 0 0):=cz eE.out 8 rfl;have G8:w3.cell? ⟨eX,9,none⟩=some (.slice none 0 0):=cz eE.out 9 rfl;have pO:=ae eE.out 0;have pP:=ae eE.out 1;have pQ:=ae eE.out 2;have pR:=ae eE.out 3;have uk:=ae eE.out 4;have G9:=ae eE.out 5;have He:=ae eE.out 6;have Hf:=ae eE.out 7;have Hg:=ae eE.out 8;have Hh:=ae eE.out 9))
  refine bodyPost_ret (fG rfl _ _ eX 137 qf (0,0) _ rfl (by (repeat (first|with_reducible refine aQ ?_ _|with_reducible refine aJ ?_|with_reducible refine aM ?_ _|refine bK (cs:=qf) ?_ _ _ rfl));(with_reducible repeat (first|refine aQ ?_ _|refine aJ ?_|refine aM ?_ _));exact eE.out) Try.underlying137 rfl (by kernel_rfl)) rfl ?_
  exact ⟨_,_,by first|rfl|(simp [aj,ak]<;>rfl)|(simp [*,aj,ak]<;>rfl),by first|exact Kd.bX _ _ _ _ _|exact Kd.jn _ _ _ _ _|exact Kd.jo _ _ _ _ _|exact Kd.jl _ _ _ _ _|exact Kd.jm _ _ _ _ _,by first|exact Kd.bX _ _ _ _ _|exact Kd.jn _ _ _ _ _|exact Kd.jo _ _ _ _ _|exact Kd.jl _ _ _ _ _|exact Kd.jm _ _ _ _ _,bz HB⟩
 rw [av c2] at H
 have j4:decide ((l0.length:Int)<20)=false:=gN c2;have mq:decide (l0.length<20)=false:=gN (by omega);clear c2
 by_cases c5:12<(l0.length:Int)
 rotate_left
 ·rw [av c5] at H
  cases H
 rw [aq c5] at H
 have mJ:decide (12<(l0.length:Int))=true:=bN c5;have qn:decide (12<l0.length)=true:=bN (by omega);clear c5
 by_cases c6:(wrap64 ((wrap64 ((rd l0 12) / 16))*4))<20
 ·rw [aq c6] at H
  have um:decide ((wrap64 ((wrap64 ((rd l0 12) / 16))*4))<20)=true:=bN c6;clear c6;simp only [Option.some.injEq,Prod.mk.injEq] at H
  obtain ⟨rfl,rfl,rfl,rfl,rfl,rfl,rfl,rfl,rfl,rfl,rfl⟩:=H
  go_enter Try.func73,Try.ntmps73
  go_wp2_with (first|((with_reducible refine aA (N:=2) rfl ?_);refine aC ?hg (N:=2) ?hd (cs:=qf) (t:=137) ?hr ?_;(case hd=>rfl);(case hg=>rfl);(case hr=>first|(go_simp;done)|(go_simp;rfl));intro eX hg w7 bJ hb;have aH:=aa.mk (au (bz HB) hb);have aK:=aa.mk (bJ);have bt:=aa.mk ((by rw [hg];exact (af (bz HB)):w.heap.size<=eX));have cC:=aa.mk ((by rw [hg];exact (af (bz HB)):w.heap.size<=eX));clear HB;have HB:=aH;have eE:=aK;have nJ:=bt;have Ue:=cC;clear aH aK bt cC;clear hb bJ hg;have Em:0<=(12:Int):=(by omega);have En:12<(l0.length:Int):=gA;obtain ⟨tX,Uf,lJ⟩:=Kd.dG gj.out 12 Em En;cases Uf;(try simp only [show (12:Int).toNat=12 from rfl,Nat.reduceMul,Nat.reduceEqDiff,Go.Addr.add,↓reduceIte] at lJ);have ZH:(12<l0.length)=True:=eq_true (by omega);(try rw [show ((12:Int)).toNat=12 from rfl] at lJ);replace lJ:=(HB.out.cell (dF w _ lJ)).trans lJ;replace Em:=eq_true Em;replace En:=eq_true En;have LF:w7.cell? ⟨eX,0,none⟩=some (.int .u16 0):=cz eE.out 0 rfl;have LG:w7.cell? ⟨eX,1,none⟩=some (.int .u16 0):=cz eE.out 1 rfl;have LH:w7.cell? ⟨eX,2,none⟩=some (.int .u32 0):=cz eE.out 2 rfl;have LI:w7.cell? ⟨eX,3,none⟩=some (.int .u32 0):=cz eE.out 3 rfl;have Ab8:w7.cell? ⟨eX,4,none⟩=some (.int .u8 0):=cz eE.out 4 rfl;have Ab9:w7.cell? ⟨eX,5,none⟩=some (.int .u16 0):=cz eE.out 5 rfl;have Aca:w7.cell? ⟨eX,6,none⟩=some (.int .u16 0):=cz eE.out 6 rfl;have Acb:w7.cell? ⟨eX,7,none⟩=some (.int .u16 0):=cz eE.out 7 rfl;have Acd:w7.cell? ⟨eX,8,none⟩=some (.slice none 0 0):=cz eE.out 8 rfl;have Ace:w7.cell? ⟨eX,9,none⟩=some (.slice none 0 0):=cz eE.out 9 rfl;have LJ:=ae eE.out 0;have LL:=ae eE.out 1;have LM:=ae eE.out 2;have LN:=ae eE.out 3;have Acf:=ae eE.out 4;have Acg:=ae eE.out 5;have Ach:=ae eE.out 6;have Aci:=ae eE.out 7;have Acj:=ae eE.out 8;have Ack:=ae eE.out 9))
  refine bodyPost_ret (fG rfl _ _ eX 137 qf (0,0) _ rfl (by (repeat (first|with_reducible refine aQ ?_ _|with_reducible refine aJ ?_|with_reducible refine aM ?_ _|refine bK (cs:=qf) ?_ _ _ rfl));(with_reducible repeat (first|refine aQ ?_ _|refine aJ ?_|refine aM ?_ _));exact eE.out) Try.underlying137 rfl (by kernel_rfl)) rfl ?_
  exact ⟨_,_,by first|rfl|(simp [aj,ak]<;>rfl)|(simp [*,aj,ak]<;>rfl),by first|exact Kd.bX _ _ _ _ _|exact Kd.jn _ _ _ _ _|exact Kd.jo _ _ _ _ _|exact Kd.jl _ _ _ _ _|exact Kd.jm _ _ _ _ _,by first|exact Kd.bX _ _ _ _ _|exact Kd.jn _ _ _ _ _|exact Kd.jo _ _ _ _ _|exact Kd.jl _ _ _ _ _|exact Kd.jm _ _ _ _ _,bz HB⟩
 rw [av c6] at H
 have um:decide ((wrap64 ((wrap64 ((rd l0 12) / 16))*4))<20)=false:=gN c6;clear c6
 by_cases c9:(l0.length:Int)<(wrap64 ((wrap64 ((rd l0 12) / 16))*4))
 ·rw [aq c9] at H
  have wW:decide ((l0.length:Int)<(wrap64 ((wrap64 ((rd l0 12) / 16))*4)))=true:=bN c9;clear c9;simp only [Option.some.injEq,Prod.mk.injEq] at H
  obtain ⟨rfl,rfl,rfl,rfl,rfl,rfl,rfl,rfl,rfl,rfl,rfl⟩:=H
  go_enter Try.func73,Try.ntmps73
  go_wp2_with (first|((with_reducible refine aA (N:=2) rfl ?_);refine aC ?hg (N:=2) ?hd (cs:=qf) (t:=137) ?hr ?_;(case hd=>rfl);(case hg=>rfl);(case hr=>first|(go_simp;done)|(go_simp;rfl));intro eX hg ku bJ hb;have aH:=aa.mk (au (bz HB) hb);have aK:=aa.mk (bJ);have bt:=aa.mk ((by rw [hg];exact (af (bz HB)):w.heap.size<=eX));have cC:=aa.mk ((by rw [hg];exact (af (bz HB)):w.heap.size<=eX));clear HB;have HB:=aH;have eE:=aK;have nJ:=bt;have Ue:=cC;clear aH aK bt cC;clear hb bJ hg;have Em:0<=(12:Int):=(by omega);have En:12<(l0.length:Int):=gA;obtain ⟨tX,Uf,lJ⟩:=Kd.dG gj.out 12 Em En;cases Uf;(try simp only [show (12:Int).toNat=12 from rfl,Nat.reduceMul,Nat.reduceEqDiff,Go.Addr.add,↓reduceIte] at lJ);have ZH:(12<l0.length)=True:=eq_true (by omega);(try rw [show ((12:Int)).toNat=12 from rfl] at lJ);replace lJ:=(HB.out.cell (dF w _ lJ)).trans lJ;replace Em:=eq_true Em;replace En:=eq_true En;have xT:ku.cell? ⟨eX,0,none⟩=some (.int .u16 0):=cz eE.out 0 rfl;have xU:ku.cell? ⟨eX,1,none⟩=some (.int .u16 0):=cz eE.out 1 rfl;have xV:ku.cell? ⟨eX,2,none⟩=some (.int .u32 0):=cz eE.out 2 rfl;have xW:ku.cell? ⟨eX,3,none⟩=some (.int .u32 0):=cz eE.out 3 rfl;have GX:ku.cell? ⟨eX,4,none⟩=some (.int .u8 0):=cz eE.out 4 rfl;have Al2:ku.cell? ⟨eX,5,none⟩=some (.int .u16 0):=cz eE.out 5 rfl;have Al3:ku.cell? ⟨eX,6,none⟩=some (.int .u16 0):=cz eE.out 6 rfl;have Al4:ku.cell? ⟨eX,7,none⟩=some (.int .u16 0):=cz eE.out 7 rfl;have Al5:ku.cell? ⟨eX,8,none⟩=some (.slice none 0 0):=cz eE.out 8 rfl;have Al6:ku.cell? ⟨eX,9,none⟩=some (.slice none 0 0):=cz eE.out 9 rfl;have xX:=ae eE.out 0;have xY:=ae eE.out 1;have xZ:=ae eE.out 2;have yc:=ae eE.out 3;have GY:=ae eE.out 4;have Al7:=ae eE.out 5;have Al8:=ae eE.out 6;have Al9:=ae eE.out 7;have Ama:=ae eE.out 8;have Amc:=ae eE.out 9))
  refine bodyPost_ret (fG rfl _ _ eX 137 qf (0,0) _ rfl (by (repeat (first|with_reducible refine aQ ?_ _|with_reducible refine aJ ?_|with_reducible refine aM ?_ _|refine bK (cs:=qf) ?_ _ _ rfl));(with_reducible repeat (first|refine aQ ?_ _|refine aJ ?_|refine aM ?_ _));exact eE.out) Try.underlying137 rfl (by kernel_rfl)) rfl ?_
  exact ⟨_,_,by first|rfl|(simp [aj,ak]<;>rfl)|(simp [*,aj,ak]<;>rfl),by first|exact Kd.bX _ _ _ _ _|exact Kd.jn _ _ _ _ _|exact Kd.jo _ _ _ _ _|exact Kd.jl _ _ _ _ _|exact Kd.jm _ _ _ _ _,by first|exact Kd.bX _ _ _ _ _|exact Kd.jn _ _ _ _ _|exact Kd.jo _ _ _ _ _|exact Kd.jl _ _ _ _ _|exact Kd.jm _ _ _ _ _,bz HB⟩
 rw [av c9] at H
 have wW:decide ((l0.length:Int)<(wrap64 ((wrap64 ((rd l0 12) / 16))*4)))=false:=gN c9;clear c9;replace H:=dc H;obtain ⟨xG,zT,H⟩:=H
 (try dsimp -simprocs only at H)
 have VL:=aa.mk zT;clear zT;replace H:=dc H;obtain ⟨yF,Ds,H⟩:=H
 (try dsimp -simprocs only at H)
 have Qp:=aa.mk Ds;clear Ds;replace H:=dc H;obtain ⟨zk,Dm,H⟩:=H
 (try dsimp -simprocs only at H)
 have A14:=aa.mk Dm;clear Dm;replace H:=dc H;obtain ⟨Ar,Eb,H⟩:=H
 (try dsimp -simprocs only at H)
 have A15:=aa.mk Eb;clear Eb
 by_cases LA:13<(l0.length:Int)
 rotate_left
 ·rw [av LA] at H
  cases H
 rw [aq LA] at H
 have RH:decide (13<(l0.length:Int))=true:=bN LA;have Nl:decide (13<l0.length)=true:=bN (by omega);clear LA;replace H:=dc H;obtain ⟨Cn,Jf,H⟩:=H
 (try dsimp -simprocs only at H)
 have Qr:=aa.mk Jf;clear Jf;replace H:=dc H;obtain ⟨El,wV,H⟩:=H
 (try dsimp -simprocs only at H)
 have OY:=aa.mk wV;clear wV;replace H:=dc H;obtain ⟨Fj,Dt,H⟩:=H
 (try dsimp -simprocs only at H)
 have A19:=aa.mk Dt;clear Dt;replace H:=dc H;obtain ⟨Ia,Dj,H⟩:=H
 (try dsimp -simprocs only at H)
 have uM:=aa.mk Dj;clear Dj;replace H:=dc H;obtain ⟨Kx,Kr,H⟩:=H
 (try dsimp -simprocs only at H)
 have A21:=aa.mk Kr;clear Kr;simp only [Option.some.injEq,Prod.mk.injEq] at H
 obtain ⟨rfl,rfl,rfl,rfl,rfl,rfl,rfl,rfl,rfl,rfl,rfl⟩:=H
 go_enter Try.func73,Try.ntmps73
 try go_wp2_with (first|((with_reducible refine aA (N:=2) rfl ?_);refine aC ?hg (N:=2) ?hd (cs:=qf) (t:=137) ?hr ?_;(case hd=>rfl);(case hg=>rfl);(case hr=>first|(go_simp;done)|(go_simp;rfl));intro eX hg Qu bJ hb;have aH:=aa.mk (au (bz HB) hb);have aK:=aa.mk (bJ);have bt:=aa.mk ((by rw [hg];exact (af (bz HB)):w.heap.size<=eX));have cC:=aa.mk ((by rw [hg];exact (af (bz HB)):w.heap.size<=eX));clear HB;have HB:=aH;have eE:=aK;have nJ:=bt;have Ue:=cC;clear aH aK bt cC;clear hb bJ hg;have Em:0<=(12:Int):=(by omega);have En:12<(l0.length:Int):=gA;obtain ⟨tX,Uf,lJ⟩:=Kd.dG gj.out 12 Em En;cases Uf;(try simp only [show (12:Int).toNat=12 from rfl,Nat.reduceMul,Nat.reduceEqDiff,Go.Addr.add,↓reduceIte] at lJ);have ZH:(12<l0.length)=True:=eq_true (by omega);(try rw [show ((12:Int)).toNat=12 from rfl] at lJ);replace lJ:=(HB.out.cell (dF w _ lJ)).trans lJ;replace Em:=eq_true Em;replace En:=eq_true En))
 have aH:=aa.mk (aJ eE.out);have aK:=aa.mk (bf HB.out);clear eE;clear HB;have eE:=aH;have HB:=aK;clear aH aK;have Adv:0<=(13:Int):=(by omega)
 have Adw:13<(l0.length:Int):=gA;obtain ⟨Ai3,Aqw,vQ⟩:=Kd.dG gj.out 13 Adv Adw;have fk:=vQ
 (try rw [show ((13:Int)).toNat=13 from rfl] at fk)
 (try rw [show 13*1=13 from rfl] at fk)
 (try simp only [Nat.reduceMul,Nat.reduceEqDiff,Go.Addr.add,↓reduceIte] at fk)
 obtain rfl:tX=Ai3:=(by injection Aqw)
 (try simp only [show (13:Int).toNat=13 from rfl,Nat.reduceMul,Nat.reduceEqDiff,Go.Addr.add,↓reduceIte] at vQ)
 have Aua:(13<l0.length)=True:=eq_true (by omega)
 (try rw [show ((13:Int)).toNat=13 from rfl] at vQ)
 replace vQ:=(HB.out.cell (dF w _ vQ)).trans vQ;replace Adv:=eq_true Adv;replace Adw:=eq_true Adw;refine dB (n:=28) (S:=fun w'=>w'.cell? ⟨tX.block,tX.off+13,none⟩=some (.int .u8 (rd l0 13))) (ds:=[]) #[false,false,false,false,false,false,false,false,false,false,false,false,false,false,false,false,false,false,false,false,false,false,false,false,false,false,false,false] (by kernel_rfl) rfl rfl (((HB.out.cell (dF w _ fk)).trans fk)) (fun hHeld=> ?_);refine bF gT.EZ gT.yK (fun ax eu=> ?_);generalize Qu.drew=w23 at eE HB vQ hHeld|-
 refine pz 0 23 ax ?_;refine pz 2 25 ax ?_;refine pz 4 27 ax ?_;refine pz 6 29 ax ?_;refine pz 8 31 ax ?_;refine pz 9 32 ax ?_;refine pz 11 34 ax ?_;refine pz 13 36 ax ?_;refine pz 15 38 ax ?_;refine pz 17 40 ax ?_;refine pz 18 41 ax ?_;refine pz 20 43 ax ?_;refine pz 21 44 ax ?_;refine pz 22 45 ax ?_;refine pz 23 46 ax ?_;refine tz 10 33 ax eu hHeld ?_;refine oz 1 (some 24) ax (fun K hK=> ?_);refine gG Try.func64 #[.slice (some tX) l0.length c0,.int .i64 0] ?_
 with_reducible refine (aT.calls _ _ l0 0 xG _ ?aE ?aG VL.out).mono ?_
 (case aE=>exact Kd.aW gj.out (bz HB))
 (case aG=>exact jx.out)
 rintro e w' ⟨rfl,⟨nd,rfl⟩⟩;refine ⟨_,rfl, ?_⟩;refine hK.out _ _ (((HB.out.cell (dF w _ fk)).trans fk)) (fun hHeld=> ?_);clear hK K;refine nz 24 ?_;refine oz 3 (some 26) ax (fun K hK=> ?_);refine gG Try.func64 #[.slice (some tX) l0.length c0,.int .i64 2] ?_
 with_reducible refine (aT.calls _ _ l0 2 yF _ ?aE ?aG Qp.out).mono ?_
 (case aE=>exact Kd.aW gj.out (bz HB))
 (case aG=>exact jx.out)
 rintro e w' ⟨rfl,⟨nd,rfl⟩⟩;refine ⟨_,rfl, ?_⟩;refine hK.out _ _ (((HB.out.cell (dF w _ fk)).trans fk)) (fun hHeld=> ?_);clear hK K;refine nz 26 ?_;refine oz 5 (some 28) ax (fun K hK=> ?_);refine gG Try.func81 #[.slice (some tX) l0.length c0,.int .i64 4] ?_
 with_reducible refine (dN.calls _ _ l0 4 zk _ ?aE ?aG A14.out).mono ?_
 (case aE=>exact Kd.aW gj.out (bz HB))
 (case aG=>exact jx.out)
 rintro e w' ⟨rfl,⟨nd,rfl⟩⟩;refine ⟨_,rfl, ?_⟩;refine hK.out _ _ (((HB.out.cell (dF w _ fk)).trans fk)) (fun hHeld=> ?_);clear hK K;refine nz 28 ?_;refine oz 7 (some 30) ax (fun K hK=> ?_);refine gG Try.func81 #[.slice (some tX) l0.length c0,.int .i64 8] ?_
 with_reducible refine (dN.calls _ _ l0 8 Ar _ ?aE ?aG A15.out).mono ?_
 (case aE=>exact Kd.aW gj.out (bz HB))
 (case aG=>exact jx.out)
 rintro e w' ⟨rfl,⟨nd,rfl⟩⟩;refine ⟨_,rfl, ?_⟩;refine hK.out _ _ (((HB.out.cell (dF w _ fk)).trans fk)) (fun hHeld=> ?_);clear hK K;refine nz 30 ?_;refine oz 12 (some 35) ax (fun K hK=> ?_);refine gG Try.func64 #[.slice (some tX) l0.length c0,.int .i64 14] ?_
 with_reducible refine (aT.calls _ _ l0 14 Cn _ ?aE ?aG Qr.out).mono ?_
 (case aE=>exact Kd.aW gj.out (bz HB))
 (case aG=>exact jx.out)
 rintro e w' ⟨rfl,⟨nd,rfl⟩⟩;refine ⟨_,rfl, ?_⟩;refine hK.out _ _ (((HB.out.cell (dF w _ fk)).trans fk)) (fun hHeld=> ?_);clear hK K;refine nz 35 ?_;refine oz 14 (some 37) ax (fun K hK=> ?_);refine gG Try.func64 #[.slice (some tX) l0.length c0,.int .i64 16] ?_
 with_reducible refine (aT.calls _ _ l0 16 El _ ?aE ?aG OY.out).mono ?_
 (case aE=>exact Kd.aW gj.out (bz HB))
 (case aG=>exact jx.out)
 rintro e w' ⟨rfl,⟨nd,rfl⟩⟩;refine ⟨_,rfl, ?_⟩;refine hK.out _ _ (((HB.out.cell (dF w _ fk)).trans fk)) (fun hHeld=> ?_);clear hK K;refine nz 37 ?_;refine oz 16 (some 39) ax (fun K hK=> ?_);refine gG Try.func64 #[.slice (some tX) l0.length c0,.int .i64 18] ?_
 with_reducible refine (aT.calls _ _ l0 18 Fj _ ?aE ?aG A19.out).mono ?_
 (case aE=>exact Kd.aW gj.out (bz HB))
 (case aG=>exact jx.out)
 rintro e w' ⟨rfl,⟨nd,rfl⟩⟩;refine ⟨_,rfl, ?_⟩;refine hK.out _ _ (((HB.out.cell (dF w _ fk)).trans fk)) (fun hHeld=> ?_);clear hK K;refine nz 39 ?_;refine oz 19 (some 42) ax (fun K hK=> ?_);refine gG Try.func65 #[.slice (some tX) l0.length c0,.int .i64 20,.int .i64 (wrap64 ((wrap64 ((rd l0 12) / 16))*4))] ?_
 with_reducible refine (eA.calls _ _ l0 20 (wrap64 ((wrap64 ((rd l0 12) / 16))*4)) Ia _ ?aE ?aG uM.out).mono ?_
 (case aE=>exact Kd.aW gj.out (bz HB))
 (case aG=>exact jx.out)
 rintro e Ir ⟨AxR,rfl,gC,hb⟩;refine ⟨_,rfl, ?_⟩;have aH:=aa.mk (Kd.bP gC (af (bz HB)));have aK:=aa.mk (bq (kz eE) hb);have bt:=aa.mk (au (bz HB) hb);clear eE;clear HB;have FU:=aH;have eE:=aK;have HB:=bt;clear aH aK bt
 (try clear hb)
 (try clear hb2)
 (try clear hk)
 (try clear hi)
 (try clear gC)
 refine hK.out _ _ (((HB.out.cell (dF w _ fk)).trans fk)) (fun hHeld=> ?_);clear hK K;refine nz 42 ?_;refine oz 24 (some 47) ax (fun K hK=> ?_);refine gG Try.func65 #[.slice (some tX) l0.length c0,.int .i64 (wrap64 ((wrap64 ((rd l0 12) / 16))*4)),.int .i64 (l0.length:Int)] ?_
 with_reducible refine (eA.calls _ _ l0 (wrap64 ((wrap64 ((rd l0 12) / 16))*4)) (l0.length:Int) Kx _ ?aE ?aG A21.out).mono ?_
 (case aE=>exact Kd.aW gj.out (bz HB))
 (case aG=>exact jx.out)
 rintro e w25 ⟨AxS,rfl,gC,hb⟩;refine ⟨_,rfl, ?_⟩;have aH:=aa.mk (Kd.mQ (Kd.rz FU) (Kd.j3 gC) hb);have aK:=aa.mk (Kd.bP (Kd.qZ gC (Kd.ox (Kd.rz FU))) (af (bz HB)));have bt:=aa.mk (bq (kz eE) hb);have cC:=aa.mk (au (bz HB) hb);clear FU;clear eE;clear HB;have FU:=aH;have ZI:=aK;have eE:=bt;have HB:=cC;clear aH aK bt cC
 (try clear hb)
 (try clear hb2)
 (try clear hk)
 (try clear hi)
 (try clear gC)
 obtain ⟨Adx,Ady,Ai4⟩:=Kd.dn ZI.out
 (first|subst Ai4|(injection Ai4 with mT ry mU;have rA:=mT.symm;have rB:=mU.symm;clear mT ry mU;subst rA;subst rB))
 obtain ⟨Km,Kn,TM⟩:=Kd.dn FU.out
 (first|subst TM|(injection TM with mT ry mU;have rA:=mT.symm;have rB:=mU.symm;clear mT ry mU;subst rA;subst rB))
 refine hK.out _ _ (((HB.out.cell (dF w _ fk)).trans fk)) (fun hHeld=> ?_);clear hK K;refine nz 47 ?_;refine pz 25 48 ax ?_;refine oz 26 (none) ax (fun K hK=> ?_);have Auc:=ru eE.out;have Aqx:=ae eE.out;refine wB (w1:= ?_) (by rfl) rfl ?_ ?_
 rotate_left
 ·go_simp
  rfl
 refine hK.out _ _ (((cell_far (p:=⟨eX,_,none⟩) (by first|exact eF fk nJ.out|exact eG fk nJ.out) _).trans (((cell_far (p:=⟨eX,_,none⟩) (by first|exact eF fk nJ.out|exact eG fk nJ.out) _).trans (((cell_far (p:=⟨eX,_,none⟩) (by first|exact eF fk nJ.out|exact eG fk nJ.out) _).trans (((cell_far (p:=⟨eX,_,none⟩) (by first|exact eF fk nJ.out|exact eG fk nJ.out) _).trans (((cell_far (p:=⟨eX,_,none⟩) (by first|exact eF fk nJ.out|exact eG fk nJ.out) _).trans (((cell_far (p:=⟨eX,_,none⟩) (by first|exact eF fk nJ.out|exact eG fk nJ.out) _).trans (((cell_far (p:=⟨eX,_,none⟩) (by first|exact eF fk nJ.out|exact eG fk nJ.out) _).trans (((cell_far (p:=⟨eX,_,none⟩) (by first|exact eF fk nJ.out|exact eG fk nJ.out) _).trans (((cell_far (p:=⟨eX,_,none⟩) (by first|exact eF fk nJ.out|exact eG fk nJ.out) _).trans (((cell_far (p:=⟨eX,_,none⟩) (by first|exact eF fk nJ.out|exact eG fk nJ.out) _).trans (hHeld))))))))))))))))))))) (fun hHeld=> ?_)
 clear hK K;refine pz 27 3 ax ?_;refine dz ax ?_
 try go_wp2
 refine bodyPost_ret (fG rfl _ _ eX 137 #[.int .u16 xG,.int .u16 yF,.int .u32 zk,.int .u32 Ar,.int .u8 (rd l0 13),.int .u16 Cn,.int .u16 El,.int .u16 Fj,.slice Km Ia.length Kn,.slice Adx Kx.length Ady] (0,0) _ rfl (by (with_reducible repeat (first|refine aQ ?_ _|refine aJ ?_|refine aM ?_ _));refine bK (cs:= #[.int .u16 xG,.int .u16 yF,.int .u32 zk,.int .u32 Ar,.int .u8 (rd l0 13),.int .u16 Cn,.int .u16 El,.int .u16 Fj,.slice Km Ia.length Kn,.slice none 0 0]) ?_ 9 _ rfl;(with_reducible repeat (first|refine aQ ?_ _|refine aJ ?_|refine aM ?_ _));refine bK (cs:= #[.int .u16 xG,.int .u16 yF,.int .u32 zk,.int .u32 Ar,.int .u8 (rd l0 13),.int .u16 Cn,.int .u16 El,.int .u16 Fj,.slice none 0 0,.slice none 0 0]) ?_ 8 _ rfl;(with_reducible repeat (first|refine aQ ?_ _|refine aJ ?_|refine aM ?_ _));refine bK (cs:= #[.int .u16 xG,.int .u16 yF,.int .u32 zk,.int .u32 Ar,.int .u8 (rd l0 13),.int .u16 Cn,.int .u16 El,.int .u16 0,.slice none 0 0,.slice none 0 0]) ?_ 7 _ rfl;(with_reducible repeat (first|refine aQ ?_ _|refine aJ ?_|refine aM ?_ _));refine bK (cs:= #[.int .u16 xG,.int .u16 yF,.int .u32 zk,.int .u32 Ar,.int .u8 (rd l0 13),.int .u16 Cn,.int .u16 0,.int .u16 0,.slice none 0 0,.slice none 0 0]) ?_ 6 _ rfl;(with_reducible repeat (first|refine aQ ?_ _|refine aJ ?_|refine aM ?_ _));refine bK (cs:= #[.int .u16 xG,.int .u16 yF,.int .u32 zk,.int .u32 Ar,.int .u8 (rd l0 13),.int .u16 0,.int .u16 0,.int .u16 0,.slice none 0 0,.slice none 0 0]) ?_ 5 _ rfl;(with_reducible repeat (first|refine aQ ?_ _|refine aJ ?_|refine aM ?_ _));refine bK (cs:= #[.int .u16 xG,.int .u16 yF,.int .u32 zk,.int .u32 Ar,.int .u8 0,.int .u16 0,.int .u16 0,.int .u16 0,.slice none 0 0,.slice none 0 0]) ?_ 4 _ rfl;(with_reducible repeat (first|refine aQ ?_ _|refine aJ ?_|refine aM ?_ _));refine bK (cs:= #[.int .u16 xG,.int .u16 yF,.int .u32 zk,.int .u32 0,.int .u8 0,.int .u16 0,.int .u16 0,.int .u16 0,.slice none 0 0,.slice none 0 0]) ?_ 3 _ rfl;(with_reducible repeat (first|refine aQ ?_ _|refine aJ ?_|refine aM ?_ _));refine bK (cs:= #[.int .u16 xG,.int .u16 yF,.int .u32 0,.int .u32 0,.int .u8 0,.int .u16 0,.int .u16 0,.int .u16 0,.slice none 0 0,.slice none 0 0]) ?_ 2 _ rfl;(with_reducible repeat (first|refine aQ ?_ _|refine aJ ?_|refine aM ?_ _));refine bK (cs:= #[.int .u16 xG,.int .u16 0,.int .u32 0,.int .u32 0,.int .u8 0,.int .u16 0,.int .u16 0,.int .u16 0,.slice none 0 0,.slice none 0 0]) ?_ 1 _ rfl;(with_reducible repeat (first|refine aQ ?_ _|refine aJ ?_|refine aM ?_ _));refine bK (cs:=qf) ?_ 0 _ rfl;(with_reducible repeat (first|refine aQ ?_ _|refine aJ ?_|refine aM ?_ _));exact eE.out) Try.underlying137 rfl (by kernel_rfl)) rfl ?_
 exact ⟨_,_,by first|rfl|(simp [aj,ak]<;>rfl)|(simp [*,aj,ak]<;>rfl),by (with_reducible repeat (first|apply Kd.fg|apply Kd.eV|apply Kd.fj));exact Kd.dA (Kd.eH (p:=⟨eX,9,none⟩) (Kd.eH (p:=⟨eX,8,none⟩) (Kd.eH (p:=⟨eX,7,none⟩) (Kd.eH (p:=⟨eX,6,none⟩) (Kd.eH (p:=⟨eX,5,none⟩) (Kd.eH (p:=⟨eX,4,none⟩) (Kd.eH (p:=⟨eX,3,none⟩) (Kd.eH (p:=⟨eX,2,none⟩) (Kd.eH (p:=⟨eX,1,none⟩) (Kd.eH (p:=⟨eX,0,none⟩) (Kd.mE FU.out eE.out (by decide)) (fun _ hk=>hk.2) (.int .u16 xG)) (fun _ hk=>hk.2) (.int .u16 yF)) (fun _ hk=>hk.2) (.int .u32 zk)) (fun _ hk=>hk.2) (.int .u32 Ar)) (fun _ hk=>hk.2) (.int .u8 (rd l0 13))) (fun _ hk=>hk.2) (.int .u16 Cn)) (fun _ hk=>hk.2) (.int .u16 El)) (fun _ hk=>hk.2) (.int .u16 Fj)) (fun _ hk=>hk.2) (.slice Km Ia.length Kn)) (fun _ hk=>hk.2) (.slice Adx Kx.length Ady)) (fun _ hk=>hk.1.2),by (with_reducible repeat (first|apply Kd.fg|apply Kd.eV|apply Kd.fj));exact Kd.dA (Kd.eH (p:=⟨eX,9,none⟩) (Kd.eH (p:=⟨eX,8,none⟩) (Kd.eH (p:=⟨eX,7,none⟩) (Kd.eH (p:=⟨eX,6,none⟩) (Kd.eH (p:=⟨eX,5,none⟩) (Kd.eH (p:=⟨eX,4,none⟩) (Kd.eH (p:=⟨eX,3,none⟩) (Kd.eH (p:=⟨eX,2,none⟩) (Kd.eH (p:=⟨eX,1,none⟩) (Kd.eH (p:=⟨eX,0,none⟩) (Kd.mE ZI.out eE.out (by decide)) (fun _ hk=>hk.2) (.int .u16 xG)) (fun _ hk=>hk.2) (.int .u16 yF)) (fun _ hk=>hk.2) (.int .u32 zk)) (fun _ hk=>hk.2) (.int .u32 Ar)) (fun _ hk=>hk.2) (.int .u8 (rd l0 13))) (fun _ hk=>hk.2) (.int .u16 Cn)) (fun _ hk=>hk.2) (.int .u16 El)) (fun _ hk=>hk.2) (.int .u16 Fj)) (fun _ hk=>hk.2) (.slice Km Ia.length Kn)) (fun _ hk=>hk.2) (.slice Adx Kx.length Ady)) (fun _ hk=>hk.1.2),bz HB⟩
def ek.f (l0:List Int):Option (Int×Int×Int×Int×List Int×Int):=if (l0.length:Int)<8 then (some (0,0,0,0,([]:List Int),20)) else (if 0<(l0.length:Int) then (if 1<(l0.length:Int) then ((aT.f l0 2).bind fun Ib=>((dN.f l0 4).bind fun Ky=>((eA.f l0 8 (l0.length:Int)).bind fun Mu=>(some (rd l0 0,rd l0 1,Ib,Ky,Mu,0))))) else (none)) else (none))
def ek.T3:Bool×List (List Nat×List Nat):=(true,[([],[]),([0],[0]),([1],[1]),([],[]),([3],[3]),([4],[4]),([],[]),([6],[6]),([],[]),([8,7],[8]),([],[]),([],[]),([11],[11]),([10,12,9],[10,12]),([2,5,7,9,13],[2,5,7,9,13]),([14,13,0,1,2,3,4,5,6,7,8,9,10,11,12,13,14],[14]),([15,0,1,2,3,4,5,6,7,8,9,10,11,12,13,14,15],[])])
def ek.B3:List Nat:=[0,1,3,0,8,24,0,64,0,448,0,0,2048,8128,16383,32767,65535]
theorem ek.Lr:gB .any (opsOf Try.f76 3)=ek.T3:=by kernel_rfl
theorem ek.Dk:cS ek.T3.2 ek.B3=true:=by kernel_rfl
theorem ek.calls (A0:Option Addr) (c0:Nat) (l0:List Int) (r1:Int) (r2:Int) (r3:Int) (r4:Int) (r5:List Int) (r6:Int) (w:World) (hr0:Kd.C (Kd.int .u8) w A0 l0.length l0) (hc0:l0.length<=c0) (h:ek.f l0=some (r1,r2,r3,r4,r5,r6)):
  Calls Try.prog 76 #[.slice A0 l0.length c0] w fun e w'=>∃ v4_:Value,e= .returned (.tuple #[.agg #[.int .u8 r1,.int .u8 r2,.int .u16 r3,.int .u32 r4,v4_],.int .i64 r6]) /\ Kd.R (Kd.int .u8) 5 w' w.heap.size (fun _=>True) v4_ r5 /\ Below w.heap.size w w':=by
 have oA:=Try.underlying101;have gj:=aa.mk hr0;have jx:=aa.mk hc0;clear hr0 hc0;have HB:=gI w;have H:(if (l0.length:Int)<8 then (some (0,0,0,0,([]:List Int),20)) else (if 0<(l0.length:Int) then (if 1<(l0.length:Int) then ((aT.f l0 2).bind fun Ib=>((dN.f l0 4).bind fun Ky=>((eA.f l0 8 (l0.length:Int)).bind fun Mu=>(some (rd l0 0,rd l0 1,Ib,Ky,Mu,0))))) else (none)) else (none)))=some (r1,r2,r3,r4,r5,r6):=h;clear h
 by_cases c2:(l0.length:Int)<8
 ·rw [aq c2] at H
  have j4:decide ((l0.length:Int)<8)=true:=bN c2;have mq:decide (l0.length<8)=true:=bN (by omega);clear c2;simp only [Option.some.injEq,Prod.mk.injEq] at H
  obtain ⟨rfl,rfl,rfl,rfl,rfl,rfl⟩:=H
  go_enter Try.func76,Try.ntmps76
  go_wp2_with (first|((with_reducible refine aA (N:=2) rfl ?_);refine aC ?hg (N:=2) ?hd (cs:= #[.int .u8 0,.int .u8 0,.int .u16 0,.int .u32 0,.slice none 0 0]) (t:=101) ?hr ?_;(case hd=>rfl);(case hg=>rfl);(case hr=>first|(go_simp;done)|(go_simp;rfl));intro mg hg w3 bJ hb;have aH:=aa.mk (au (bz HB) hb);have aK:=aa.mk (bJ);have bt:=aa.mk ((by rw [hg];exact (af (bz HB)):w.heap.size<=mg));have cC:=aa.mk ((by rw [hg];exact (af (bz HB)):w.heap.size<=mg));clear HB;have HB:=aH;have nK:=aK;have oG:=bt;have Ai5:=cC;clear aH aK bt cC;clear hb bJ hg;have pK:w3.cell? ⟨mg,0,none⟩=some (.int .u8 0):=cz nK.out 0 rfl;have pL:w3.cell? ⟨mg,1,none⟩=some (.int .u8 0):=cz nK.out 1 rfl;have pM:w3.cell? ⟨mg,2,none⟩=some (.int .u16 0):=cz nK.out 2 rfl;have pN:w3.cell? ⟨mg,3,none⟩=some (.int .u32 0):=cz nK.out 3 rfl;have uj:w3.cell? ⟨mg,4,none⟩=some (.slice none 0 0):=cz nK.out 4 rfl;have pO:=ae nK.out 0;have pP:=ae nK.out 1;have pQ:=ae nK.out 2;have pR:=ae nK.out 3;have uk:=ae nK.out 4))
  refine bodyPost_ret (fG rfl _ _ mg 101 #[.int .u8 0,.int .u8 0,.int .u16 0,.int .u32 0,.slice none 0 0] (0,0) _ rfl (by (repeat (first|with_reducible refine aQ ?_ _|with_reducible refine aJ ?_|with_reducible refine aM ?_ _|refine bK (cs:= #[.int .u8 0,.int .u8 0,.int .u16 0,.int .u32 0,.slice none 0 0]) ?_ _ _ rfl));(with_reducible repeat (first|refine aQ ?_ _|refine aJ ?_|refine aM ?_ _));exact nK.out) Try.underlying101 rfl (by kernel_rfl)) rfl ?_;exact ⟨_,by first|rfl|(simp [aj,ak]<;>rfl)|(simp [*,aj,ak]<;>rfl),by first|exact Kd.bX _ _ _ _ _|exact Kd.jn _ _ _ _ _|exact Kd.jo _ _ _ _ _|exact Kd.jl _ _ _ _ _|exact Kd.jm _ _ _ _ _,bz HB⟩
 rw [av c2] at H
 have j4:decide ((l0.length:Int)<8)=false:=gN c2;have mq:decide (l0.length<8)=false:=gN (by omega);clear c2
 by_cases c5:0<(l0.length:Int)
 rotate_left
 ·rw [av c5] at H
  cases H
 rw [aq c5] at H
 have mJ:decide (0<(l0.length:Int))=true:=bN c5;have qn:decide (0<l0.length)=true:=bN (by omega);clear c5
 by_cases c6:1<(l0.length:Int)
 rotate_left
 ·rw [av c6] at H
  cases H
 rw [aq c6] at H
 have um:decide (1<(l0.length:Int))=true:=bN c6;have OZ:decide (1<l0.length)=true:=bN (by omega);clear c6;replace H:=dc H;obtain ⟨Ib,BB,H⟩:=H
 (try dsimp -simprocs only at H)
 have A7:=aa.mk BB;clear BB;replace H:=dc H;obtain ⟨Ky,Ke,H⟩:=H
 (try dsimp -simprocs only at H)
 have A8:=aa.mk Ke;clear Ke;replace H:=dc H;obtain ⟨Mu,Yc,H⟩:=H
 (try dsimp -simprocs only at H)
 have A9:=aa.mk Yc;clear Yc;simp only [Option.some.injEq,Prod.mk.injEq] at H
 obtain ⟨rfl,rfl,rfl,rfl,rfl,rfl⟩:=H
 go_enter Try.func76,Try.ntmps76
 try go_wp2_with (first|((with_reducible refine aA (N:=2) rfl ?_);refine aC ?hg (N:=2) ?hd (cs:= #[.int .u8 0,.int .u8 0,.int .u16 0,.int .u32 0,.slice none 0 0]) (t:=101) ?hr ?_;(case hd=>rfl);(case hg=>rfl);(case hr=>first|(go_simp;done)|(go_simp;rfl));intro mg hg ku bJ hb;have aH:=aa.mk (au (bz HB) hb);have aK:=aa.mk (bJ);have bt:=aa.mk ((by rw [hg];exact (af (bz HB)):w.heap.size<=mg));have cC:=aa.mk ((by rw [hg];exact (af (bz HB)):w.heap.size<=mg));clear HB;have HB:=aH;have nK:=aK;have oG:=bt;have Ai5:=cC;clear aH aK bt cC;clear hb bJ hg))
 have aH:=aa.mk (aJ nK.out);have aK:=aa.mk (bf HB.out);clear nK;clear HB;have nK:=aH;have HB:=aK;clear aH aK;have Adz:0<=(0:Int):=(by omega)
 have AdA:0<(l0.length:Int):=gA;obtain ⟨Eo,Aqy,vR⟩:=Kd.dG gj.out 0 Adz AdA;have jH:=vR
 (try rw [show ((0:Int)).toNat=0 from rfl] at jH)
 (try rw [show 0*1=0 from rfl] at jH)
 (try rw [Addr.add_zero'] at jH)
 cases Aqy
 have Aud:(0<l0.length)=True:=eq_true (by omega)
 (try rw [show ((0:Int)).toNat=0 from rfl] at vR)
 (try rw [Addr.add_zero'] at vR)
 replace vR:=(HB.out.cell (dF w _ vR)).trans vR;replace Adz:=eq_true Adz;replace AdA:=eq_true AdA;have AdB:0<=(1:Int):=(by omega)
 have AdC:1<(l0.length:Int):=gA;obtain ⟨Ai6,Aqz,vS⟩:=Kd.dG gj.out 1 AdB AdC;have jI:=vS
 (try rw [show ((1:Int)).toNat=1 from rfl] at jI)
 (try rw [show 1*1=1 from rfl] at jI)
 (try simp only [Nat.reduceMul,Nat.reduceEqDiff,Go.Addr.add,↓reduceIte] at jI)
 obtain rfl:Eo=Ai6:=(by injection Aqz)
 (try simp only [show (1:Int).toNat=1 from rfl,Nat.reduceMul,Nat.reduceEqDiff,Go.Addr.add,↓reduceIte] at vS)
 have Aue:(1<l0.length)=True:=eq_true (by omega)
 (try rw [show ((1:Int)).toNat=1 from rfl] at vS)
 replace vS:=(HB.out.cell (dF w _ vS)).trans vS;replace AdB:=eq_true AdB;replace AdC:=eq_true AdC;refine dB (n:=17) (S:=fun w'=>w'.cell? Eo=some (.int .u8 (rd l0 0)) /\ w'.cell? ⟨Eo.block,Eo.off+1,none⟩=some (.int .u8 (rd l0 1))) (ds:=[]) #[false,false,false,false,false,false,false,false,false,false,false,false,false,false,false,false,false] (by kernel_rfl) rfl rfl ⟨((HB.out.cell (dF w _ jH)).trans jH),((HB.out.cell (dF w _ jI)).trans jI)⟩ (fun hHeld=> ?_);refine bF ek.Lr ek.Dk (fun ax eu=> ?_);generalize ku.drew=sn at nK HB vR vS hHeld|-
 refine pz 0 8 ax ?_;refine pz 1 9 ax ?_;refine pz 3 11 ax ?_;refine pz 4 12 ax ?_;refine pz 6 14 ax ?_;refine pz 8 16 ax ?_;refine pz 10 18 ax ?_;refine pz 11 19 ax ?_;refine pz 12 20 ax ?_;refine gF (i:=2) (N:=some 10) (v:= ?_) (a':= ?_) #[true,true,true,true,true,false,true,false,true,false,true,true,true,false,false,false,false] rfl rfl (dm ax.out eu.out (by kernel_rfl)) (fun _ _ _ h=>h) (Or.inl ⟨by rfl, ?_⟩) hHeld ?_ ?_
 rotate_left
 ·rintro w' ⟨s0,s1⟩
  go_simp
  with_reducible rfl
 rotate_left
 ·simp only [pG]
  rfl
 refine gF (i:=5) (N:=some 13) (v:= ?_) (a':= ?_) #[true,true,true,true,true,true,true,false,true,false,true,true,true,false,false,false,false] rfl rfl (dm ax.out eu.out (by kernel_rfl)) (fun _ _ _ h=>h) (Or.inl ⟨by rfl, ?_⟩) hHeld ?_ ?_
 rotate_left
 ·rintro w' ⟨s0,s1⟩
  go_simp
  with_reducible rfl
 rotate_left
 ·simp only [pG]
  rfl
 refine oz 7 (some 15) ax (fun K hK=> ?_);refine gG Try.func64 #[.slice (some Eo) l0.length c0,.int .i64 2] ?_
 with_reducible refine (aT.calls _ _ l0 2 Ib _ ?aE ?aG A7.out).mono ?_
 (case aE=>exact Kd.aW gj.out (bz HB))
 (case aG=>exact jx.out)
 rintro e w' ⟨rfl,⟨nd,rfl⟩⟩;refine ⟨_,rfl, ?_⟩;refine hK.out _ _ ⟨((HB.out.cell (dF w _ jH)).trans jH),((HB.out.cell (dF w _ jI)).trans jI)⟩ (fun hHeld=> ?_);clear hK K;refine nz 15 ?_;refine oz 9 (some 17) ax (fun K hK=> ?_);refine gG Try.func81 #[.slice (some Eo) l0.length c0,.int .i64 4] ?_
 with_reducible refine (dN.calls _ _ l0 4 Ky _ ?aE ?aG A8.out).mono ?_
 (case aE=>exact Kd.aW gj.out (bz HB))
 (case aG=>exact jx.out)
 rintro e w' ⟨rfl,⟨nd,rfl⟩⟩;refine ⟨_,rfl, ?_⟩;refine hK.out _ _ ⟨((HB.out.cell (dF w _ jH)).trans jH),((HB.out.cell (dF w _ jI)).trans jI)⟩ (fun hHeld=> ?_);clear hK K;refine nz 17 ?_;refine oz 13 (some 21) ax (fun K hK=> ?_);refine gG Try.func65 #[.slice (some Eo) l0.length c0,.int .i64 8,.int .i64 (l0.length:Int)] ?_
 with_reducible refine (eA.calls _ _ l0 8 (l0.length:Int) Mu _ ?aE ?aG A9.out).mono ?_
 (case aE=>exact Kd.aW gj.out (bz HB))
 (case aG=>exact jx.out)
 rintro e nP ⟨AxT,rfl,gC,hb⟩;refine ⟨_,rfl, ?_⟩;have aH:=aa.mk (Kd.bP gC (af (bz HB)));have aK:=aa.mk (bq (kz nK) hb);have bt:=aa.mk (au (bz HB) hb);clear nK;clear HB;have ZJ:=aH;have nK:=aK;have HB:=bt;clear aH aK bt
 (try clear hb)
 (try clear hb2)
 (try clear hk)
 (try clear hi)
 (try clear gC)
 obtain ⟨Kf,Kg,Mm⟩:=Kd.dn ZJ.out
 (first|subst Mm|(injection Mm with mT ry mU;have rA:=mT.symm;have rB:=mU.symm;clear mT ry mU;subst rA;subst rB))
 refine hK.out _ _ ⟨((HB.out.cell (dF w _ jH)).trans jH),((HB.out.cell (dF w _ jI)).trans jI)⟩ (fun hHeld=> ?_);clear hK K;refine nz 21 ?_;refine pz 14 22 ax ?_;refine oz 15 (none) ax (fun K hK=> ?_);have Auf:=cs5 nK.out;have AqA:=ae nK.out;refine wB (w1:= ?_) (by rfl) rfl ?_ ?_
 rotate_left
 ·go_simp
  rfl
 refine hK.out _ _ ⟨((cell_far (p:=⟨mg,_,none⟩) (by first|exact eF jH oG.out|exact eG jH oG.out) _).trans (((cell_far (p:=⟨mg,_,none⟩) (by first|exact eF jH oG.out|exact eG jH oG.out) _).trans (((cell_far (p:=⟨mg,_,none⟩) (by first|exact eF jH oG.out|exact eG jH oG.out) _).trans (((cell_far (p:=⟨mg,_,none⟩) (by first|exact eF jH oG.out|exact eG jH oG.out) _).trans (((cell_far (p:=⟨mg,_,none⟩) (by first|exact eF jH oG.out|exact eG jH oG.out) _).trans (hHeld.1)))))))))),((cell_far (p:=⟨mg,_,none⟩) (by first|exact eF jI oG.out|exact eG jI oG.out) _).trans (((cell_far (p:=⟨mg,_,none⟩) (by first|exact eF jI oG.out|exact eG jI oG.out) _).trans (((cell_far (p:=⟨mg,_,none⟩) (by first|exact eF jI oG.out|exact eG jI oG.out) _).trans (((cell_far (p:=⟨mg,_,none⟩) (by first|exact eF jI oG.out|exact eG jI oG.out) _).trans (((cell_far (p:=⟨mg,_,none⟩) (by first|exact eF jI oG.out|exact eG jI oG.out) _).trans (hHeld.2))))))))))⟩ (fun hHeld=> ?_)
 clear hK K;refine pz 16 3 ax ?_;refine dz ax ?_
 try go_wp2
 refine bodyPost_ret (fG rfl _ _ mg 101 #[.int .u8 (rd l0 0),.int .u8 (rd l0 1),.int .u16 Ib,.int .u32 Ky,.slice Kf Mu.length Kg] (0,0) _ rfl (by (with_reducible repeat (first|refine aQ ?_ _|refine aJ ?_|refine aM ?_ _));refine bK (cs:= #[.int .u8 (rd l0 0),.int .u8 (rd l0 1),.int .u16 Ib,.int .u32 Ky,.slice none 0 0]) ?_ 4 _ rfl;(with_reducible repeat (first|refine aQ ?_ _|refine aJ ?_|refine aM ?_ _));refine bK (cs:= #[.int .u8 (rd l0 0),.int .u8 (rd l0 1),.int .u16 Ib,.int .u32 0,.slice none 0 0]) ?_ 3 _ rfl;(with_reducible repeat (first|refine aQ ?_ _|refine aJ ?_|refine aM ?_ _));refine bK (cs:= #[.int .u8 (rd l0 0),.int .u8 (rd l0 1),.int .u16 0,.int .u32 0,.slice none 0 0]) ?_ 2 _ rfl;(with_reducible repeat (first|refine aQ ?_ _|refine aJ ?_|refine aM ?_ _));refine bK (cs:= #[.int .u8 (rd l0 0),.int .u8 0,.int .u16 0,.int .u32 0,.slice none 0 0]) ?_ 1 _ rfl;(with_reducible repeat (first|refine aQ ?_ _|refine aJ ?_|refine aM ?_ _));refine bK (cs:= #[.int .u8 0,.int .u8 0,.int .u16 0,.int .u32 0,.slice none 0 0]) ?_ 0 _ rfl;(with_reducible repeat (first|refine aQ ?_ _|refine aJ ?_|refine aM ?_ _));exact nK.out) Try.underlying101 rfl (by kernel_rfl)) rfl ?_
 exact ⟨_,by first|rfl|(simp [aj,ak]<;>rfl)|(simp [*,aj,ak]<;>rfl),by (with_reducible repeat (first|apply Kd.fg|apply Kd.eV|apply Kd.fj));exact Kd.dA (Kd.eH (p:=⟨mg,4,none⟩) (Kd.eH (p:=⟨mg,3,none⟩) (Kd.eH (p:=⟨mg,2,none⟩) (Kd.eH (p:=⟨mg,1,none⟩) (Kd.eH (p:=⟨mg,0,none⟩) (Kd.mE ZJ.out nK.out (by decide)) (fun _ hk=>hk.2) (.int .u8 (rd l0 0))) (fun _ hk=>hk.2) (.int .u8 (rd l0 1))) (fun _ hk=>hk.2) (.int .u16 Ib)) (fun _ hk=>hk.2) (.int .u32 Ky)) (fun _ hk=>hk.2) (.slice Kf Mu.length Kg)) (fun _ hk=>trivial),bz HB⟩
attribute [local go_sem] dI dJ eI eJ cO cP dK dL
def mh.f (l0:List Int) (l1:List Int):Option (Bool):=some ((strOfNums l0).toList==(strOfNums l1).toList)
theorem mh.calls (A0:Option Addr) (c0:Nat) (l0:List Int) (A1:Option Addr) (c1:Nat) (l1:List Int) (r:Bool) (w:World) (hr0:Kd.C (Kd.int .u8) w A0 l0.length l0) (hc0:l0.length<=c0) (hr1:Kd.C (Kd.int .u8) w A1 l1.length l1) (hc1:l1.length<=c1) (h:mh.f l0 l1=some r):
  Calls Try.prog 22 #[.slice A0 l0.length c0,.slice A1 l1.length c1] w fun e w'=>e= .returned (.bool r) /\ bB w w':=by
 have gj:=aa.mk hr0;have jx:=aa.mk hc0;clear hr0 hc0;have HR1:=aa.mk hr1;have HC1:=aa.mk hc1;clear hr1 hc1;have H:(some ((strOfNums l0).toList==(strOfNums l1).toList))=some r:=h;clear h;obtain rfl:=cN H;have AxU:=Kd.IC (P:=Try.prog) (A:=A0) (c:=c0) Try.underlying23 Try.underlying5 Try.underlying9 gj.out;have AxV:=Kd.IC (P:=Try.prog) (A:=A1) (c:=c1) Try.underlying23 Try.underlying5 Try.underlying9 HR1.out
 go_enter Try.func22,Try.ntmps22
 go_wp2
 go_ret
 exact ⟨by first|rfl|(simp;done)|(simp [*];done),by repeat (first|exact bB.refl _|apply bB.step)⟩
end Go.Proofs.Ytkmimamminddiaa.PB
namespace Go.Proofs.Ytkmimamminddiaa.Spec
open Go.RowKit
def gJ (l:List Int):Prop:=∀ x ∈ l,0<=x /\ x<=255
def ZK (l:List Int):Prop:=∀ x ∈ l,0<=x /\ x<=65535
theorem gJ.nil:gJ []:=fun _ h=>by simp at h
theorem gJ.cons {a:Int} {l:List Int} (h:0<=a /\ a<=255) (hl:gJ l):gJ (a::l):=fun x hx=>by
 rcases List.mem_cons.1 hx with rfl|hx
 ·exact h
 ·exact hl _ hx
theorem gJ.append {l m:List Int} (h:gJ l) (hm:gJ m):gJ (l++m):=fun x hx=>by
 rcases List.mem_append.1 hx with hx|hx
 ·exact h _ hx
 ·exact hm _ hx
theorem gJ.left {l m:List Int} (h:gJ (l++m)):gJ l:=fun x hx=>h x (List.mem_append.2 (.inl hx))
theorem gJ.right {l m:List Int} (h:gJ (l++m)):gJ m:=fun x hx=>h x (List.mem_append.2 (.inr hx))
theorem gJ.take {l:List Int} (h:gJ l) (n:Nat):gJ (l.take n):=fun x hx=>h x (List.mem_of_mem_take hx)
theorem gJ.drop {l:List Int} (h:gJ l) (n:Nat):gJ (l.drop n):=fun x hx=>h x (List.mem_of_mem_drop hx)
theorem gJ.set {l:List Int} (h:gJ l) (i:Nat) {v:Int} (hv:0<=v /\ v<=255):gJ (l.set i v):=fun x hx=>by
 rcases List.mem_or_eq_of_mem_set hx with hx|rfl
 ·exact h _ hx
 ·exact hv
theorem gJ.replicate (n:Nat):gJ (List.replicate n 0):=fun x hx=>by
 have:=List.eq_of_mem_replicate hx
 omega
theorem gJ.getD {l:List Int} (h:gJ l) (i:Nat):0<=l.getD i 0 /\ l.getD i 0<=255:=by
 rw [List.getD_eq_getElem?_getD]
 rcases Nat.lt_or_ge i l.length with hi|hi
 ·rw [List.getElem?_eq_getElem hi]
  exact h _ (List.getElem_mem hi)
 ·rw [List.getElem?_eq_none hi]
  simp
def words:List Int ->List Int
 |[]=>[]
 |[a]=>[a*256]
 |a::b::t=>(a*256+b)::words t
theorem fN:∀ l:List Int,gJ l ->ZK (words l)
 |[],_=>fun _ h=>by simp [words] at h
 |[a],h=>fun x hx=>by
  have:=h a (by simp)
  simp [words] at hx
  omega
 |a::b::t,h=>fun x hx=>by
  have ha:=h a (by simp);have hb:=h b (by simp);have ht:gJ t:=fun y hy=>h y (by simp [hy])
  rcases List.mem_cons.1 (show x ∈ (a*256+b)::words t from hx) with rfl|hx
  ·omega
  ·exact fN t ht _ hx
theorem kf:∀ l:List Int,(words l).length=(l.length+1) / 2
 |[]=>rfl
 |[_]=>by simp [words]
 |a::b::t=>by
  have:=kf t;simp only [words,List.length_cons,this]
  omega
theorem Bl:∀ (l:List Int) (j:Nat),2*j<l.length ->(words l)[j]?=some (l.getD (2*j) 0*256+l.getD (2*j+1) 0)
 |[],j,h=>by simp at h
 |[a],j,h=>by
  have:j=0:=by simp at h;omega
  subst this
  simp [words]
 |a::b::t,0,_=>by simp [words]
 |a::b::t,j+1,h=>by
  have:=Bl t j (by simp only [List.length_cons] at h;omega);simp only [words,List.getElem?_cons_succ,this];rw [show 2*(j+1)=2*j+1+1 from by omega]
  simp
def wJ (s x:Int):Int:=if s+x>4294967295 then s+x - 4294967295 else s+x
def Ep (s:Int) (ws:List Int):Int:=ws.foldl wJ s
def norm (n:Int):Int:=if n=0 then 0 else (n - 1) % 65535+1
def kW:List Int ->Int
 |[]=>0
 |x::t=>x+kW t
theorem mD:∀ l:List Int,ZK l ->0<=kW l
 |[],_=>by simp [kW]
 |x::t,h=>by
  have:=mD t (fun y hy=>h y (by simp [hy]));have:=h x (by simp);simp only [kW];omega
theorem iG (n:Int) (h:0<=n):0<=norm n /\ norm n<=65535:=by unfold norm;split<;>omega
theorem Kz {n:Int} (h:0<n):1<=norm n:=by unfold norm;split<;>omega
theorem Er {n:Int} (h0:0<=n) (h:n<=65535):norm n=n:=by unfold norm;split<;>omega
theorem vT {s x:Int} (h0:0<=s) (h1:s<=4294967295) (hx:0<=x /\ x<=65535):0<=wJ s x /\ wJ s x<=4294967295:=by
 unfold wJ;split<;>omega
theorem PM {s x r:Int} (h0:0<=s) (h1:s<=4294967295) (hx:0<=x /\ x<=65535) (hr:0<=r):norm (wJ s x+r)=norm (s+x+r):=by
 unfold wJ norm
 split
 ·rw [av (by omega),av (by omega)];omega
 ·rfl
theorem lP:∀ (ws:List Int) (s:Int),0<=s ->s<=4294967295 ->ZK ws ->0<=Ep s ws /\ Ep s ws<=4294967295
 |[],s,h0,h1,_=>⟨h0,h1⟩
 |x::t,s,h0,h1,hw=>by
  have hx:=vT h0 h1 (hw x (by simp));exact lP t (wJ s x) hx.1 hx.2 (fun y hy=>hw y (by simp [hy]))
theorem FV:∀ (ws:List Int) (s r:Int),0<=s ->s<=4294967295 ->ZK ws ->0<=r ->norm (Ep s ws+r)=norm (s+kW ws+r)
 |[],s,r,h0,h1,_,hr=>by simp [Ep,kW]
 |x::t,s,r,h0,h1,hw,hr=>by
  have hx:=vT h0 h1 (hw x (by simp));have ht:ZK t:=fun y hy=>hw y (by simp [hy])
  have e:=FV t (wJ s x) r hx.1 hx.2 ht hr;have hi:=mD t ht;have e2:=PM (r:=kW t+r) h0 h1 (hw x (by simp)) (by omega)
  show norm (Ep (wJ s x) t+r)=norm (s+(x+kW t)+r)
  rw [e,show wJ s x+kW t+r=wJ s x+(kW t+r) from by omega,e2]
  congr 1;omega
theorem nY (ws:List Int) (s:Int) (h0:0<=s) (h1:s<=4294967295) (hw:ZK ws):norm (Ep s ws)=norm (s+kW ws):=by
 have:=FV ws s 0 h0 h1 hw (by omega)
 simpa using this
def ck (l:List Int):Int:=65535 - norm (kW (words l))
theorem Bm (n:Int) (h₀:0<=n) (h₁:n<2 ^ 16):IntKind.u16.wrap n=n:=by rw [IntKind.wrap_u16];omega
theorem FW (n:Int) (h₀:0<=n) (h₁:n<2 ^ 32):IntKind.u32.wrap n=n:=by rw [IntKind.wrap_u32];omega
theorem zl {n:Int} (h₀:0<=n) (h₁:n<=65535):IntKind.u16.wrap n=n:=Bm n h₀ (by omega)
theorem KA {n:Int} (h₀:0<=n) (h₁:n<=18446744073709551615):IntKind.u64.wrap n=n:=by rw [IntKind.wrap_u64];omega
theorem Ug (i:Nat) (hi:i<=8) {x:Int} (h₀:0<=x) (h₁:x<=255):Go.bits .and .u8 x (2 ^ i - 1)=x % 2 ^ i:=bits_mask .u8 8 (by decide) wraps_u8 i hi x h₀ (by omega)
theorem Xt (i:Nat) (hi:i<=32) {x:Int} (h₀:0<=x) (h₁:x<=4294967295):Go.bits .and .u32 x (2 ^ i - 1)=x % 2 ^ i:=bits_mask .u32 32 (by decide) FW i hi x h₀ (by omega)
theorem Ai7 (i:Nat) {x y:Int} (hx₀:0<=x) (hx:x % 2 ^ i=0) (hx₁:x<=255) (hy₀:0<=y) (hy:y<2 ^ i) (hy₁:y<=255):Go.bits .or .u8 x y=x+y:=bits_join .u8 8 (by decide) wraps_u8 i x y hx₀ hx (by omega) hy₀ hy (by omega)
theorem Uh (i:Nat) {x y:Int} (hx₀:0<=x) (hx:x % 2 ^ i=0) (hx₁:x<=65535) (hy₀:0<=y) (hy:y<2 ^ i) (hy₁:y<=65535):Go.bits .or .u16 x y=x+y:=bits_join .u16 16 (by decide) Bm i x y hx₀ hx (by omega) hy₀ hy (by omega)
theorem Ic (i:Nat) {x y:Int} (hx₀:0<=x) (hx:x % 2 ^ i=0) (hx₁:x<=4294967295) (hy₀:0<=y) (hy:y<2 ^ i) (hy₁:y<=4294967295):Go.bits .or .u32 x y=x+y:=bits_join .u32 32 (by decide) FW i x y hx₀ hx (by omega) hy₀ hy (by omega)
theorem rV {x:Int} (h₀:0<=x) (h₁:x<=4294967295):Go.bits .and .u32 x 65535=x % 65536:=Xt 16 (by decide) h₀ h₁
theorem Mv {a b:Int} (ha:0<=a /\ a<=255) (hb:0<=b /\ b<=255):Go.bits .or .u16 (a*256) b=a*256+b:=Uh 8 (by omega) (by omega) (by omega) (by omega) (by omega) (by omega)
theorem qE {x:Int} (h₀:0<=x) (h₁:x<=65535):Go.bits .xor .u16 65535 x=65535 - x:=by
 obtain ⟨a,rfl⟩:=Int.eq_ofNat_of_zero_le h₀;have ha:a<65536:=by omega
 rw [show (65535:Int)=((65535:Nat):Int) from rfl,Go.u16_xor_nat 65535 a (by decide) ha]
 have:(65535 ^^^ a:Nat)=65535 - a:=by
  have h1:=BitVec.toNat_not (x:=BitVec.ofNat 16 a)
  have h2:(~~~ (BitVec.ofNat 16 a))=BitVec.ofNat 16 65535 ^^^ BitVec.ofNat 16 a:=by
   rw [show BitVec.ofNat 16 65535=BitVec.allOnes 16 from rfl,BitVec.allOnes_xor]
  rw [h2,BitVec.toNat_xor,BitVec.toNat_ofNat,BitVec.toNat_ofNat,Nat.mod_eq_of_lt (show 65535<2 ^ 16 from by decide),Nat.mod_eq_of_lt (show a<2 ^ 16 from ha)] at h1
  rw [h1]
 rw [this]
 omega
theorem bZ {n:Int} (h₀: -9223372036854775808<=n) (h₁:n<=9223372036854775807):wrap64 n=n:=by unfold wrap64;omega
theorem Es:∀ (l:List Int) (t:Nat) (a b:Int),2*t+1<l.length ->words ((l.set (2*t) a).set (2*t+1) b)=(words l).set t (a*256+b)
 |[],t,a,b,h=>by simp at h
 |[x],t,a,b,h=>by simp at h
 |x::y::l,0,a,b,h=>by simp [words]
 |x::y::l,t+1,a,b,h=>by
  have:=Es l t a b (by simp only [List.length_cons] at h;omega);rw [show 2*(t+1)=2*t+1+1 from by omega];simp only [List.set_cons_succ,words,this]
theorem KC:∀ (ws:List Int) (t:Nat) (v:Int),t<ws.length ->kW (ws.set t v)=kW ws - ws.getD t 0+v
 |[],t,v,h=>by simp at h
 |x::ws,0,v,h=>by simp [kW];omega
 |x::ws,t+1,v,h=>by
  have:=KC ws t v (by simp only [List.length_cons] at h;omega);simp only [List.set_cons_succ,kW,this,List.getD_cons_succ];omega
def Mw (l:List Int) (t:Nat):Int:=l.getD (2*t) 0*256+l.getD (2*t+1) 0
theorem PN (l:List Int) (t:Nat) (h:2*t<l.length):(words l).getD t 0=Mw l t:=by
 rw [List.getD_eq_getElem?_getD,Bl l t h];rfl
theorem KD (l:List Int) (t:Nat) (a b:Int) (h:2*t+1<l.length):
  kW (words ((l.set (2*t) a).set (2*t+1) b))=kW (words l) - Mw l t+(a*256+b):=by
 have hl:=kf l;rw [Es l t a b h,KC _ _ _ (by omega),PN l t (by omega)]
theorem stands {S:Int} (h:0<=S):norm (S+(65535 - norm S))=65535:=by
 unfold norm
 split
 ·rw [av (by omega)];omega
 ·rw [av (by omega)];omega
end Go.Proofs.Ytkmimamminddiaa.Spec
namespace Go.Proofs.Ytkmimamminddiaa.jJ
open Go.RowKit Go.Proofs.Ytkmimamminddiaa.PB Go.Proofs.ah.bT Go.Proofs.ah.cY Go.Proofs.Ytkmimamminddiaa.Spec
theorem gU (l:List Int) (i:Int) (j:Nat) (h:i=(j:Int)):rd l i=l.getD j 0:=by subst h;simp [rd]
theorem Ie (l:List Int) (a b:Nat) (i:Int) (j:Nat) (h:i=(j:Int)) (hb:a+j<b):rd ((l.take b).drop a) i=l.getD (a+j) 0:=by
 rw [gU _ _ j h,List.getD_eq_getElem?_getD,List.getElem?_drop,List.getElem?_take_of_lt hb,List.getD_eq_getElem?_getD]
theorem Ui {x:Int} (h:(Lit.int .u8 x).wf=true):0<=x /\ x<=255:=by
 simp [Lit.wf,IntKind.min,IntKind.max,IntKind.bits,IntKind.signed] at h;omega
theorem Uj {x:Int} (h:(Lit.int .u16 x).wf=true):0<=x /\ x<=65535:=by
 simp [Lit.wf,IntKind.min,IntKind.max,IntKind.bits,IntKind.signed] at h;omega
theorem Uk {x:Int} (h:(Lit.int .u32 x).wf=true):0<=x /\ x<=4294967295:=by
 simp [Lit.wf,IntKind.min,IntKind.max,IntKind.bits,IntKind.signed] at h;omega
def iX (l:List Int) (i:Nat):Int:=l.getD i 0*256+l.getD (i+1) 0
def vU (l:List Int) (i:Nat):Int:=iX l i*65536+iX l (i+2)
theorem eU {l:List Int} (h:gJ l) (i:Nat):0<=iX l i /\ iX l i<=65535:=by
 have h1:=h.getD i;have h2:=h.getD (i+1);unfold iX;omega
theorem uI {l:List Int} (h:gJ l) (i:Nat):0<=vU l i /\ vU l i<=4294967295:=by
 have h1:=eU h i;have h2:=eU h (i+2);unfold vU;omega
theorem Et {a b:Int} (ha:0<=a /\ a<=255) (hb:0<=b /\ b<=255):Go.bits .or .u16 (IntKind.u16.wrap ((IntKind.u16.wrap a)*256)) (IntKind.u16.wrap b)=a*256+b:=by
 rw [zl (n:=a) (by omega) (by omega),zl (n:=a*256) (by omega) (by omega),zl (n:=b) (by omega) (by omega),Mv ha hb]
theorem Mx {a b:Int} (ha:0<=a /\ a<=65535) (hb:0<=b /\ b<=65535):Go.bits .or .u32 (((a % 4294967296)*65536) % 4294967296) (b % 4294967296)=a*65536+b:=by
 rw [show a % 4294967296=a from by omega,show (a*65536) % 4294967296=a*65536 from by omega,show b % 4294967296=b from by omega];exact Ic 16 (by omega) (by omega) (by omega) (by omega) (by omega) (by omega)
theorem iP {l:List Int} (h:gJ l) (i:Nat) (hi:i+2<=l.length) (hl:l.length<=1000000000):aT.f l (i:Int)=some (iX l i):=by
 unfold aT.f;have e:wrap64 ((i:Int)+1)=((i+1:Nat):Int):=by rw [bZ (by omega) (by omega)];omega
 rw [e,aq (by omega),aq (by omega),aq (by omega),aq (by omega),gU l _ i rfl,gU l _ (i+1) rfl,Et (h.getD i) (h.getD (i+1))]
 rfl
theorem Bn (l:List Int) (a b:Nat) (h1:a<=b) (h2:b<=l.length) (hl:l.length<=1000000000):eA.f l (a:Int) (b:Int)=some ((l.take b).drop a):=by
 unfold eA.f;have hlen:((l.take b).drop a).length<=l.length:=by rw [List.length_drop,List.length_take];omega
 rw [aq (by omega),aq (by omega),aq (by omega)];simp only [Int.toNat_natCast,List.length_nil,Nat.zero_add,List.nil_append];rw [aq (by omega)]
theorem xH (l:List Int) (hl:l.length<=1000000000):cA.f l=some l:=by
 unfold cA.f;rw [aq (by omega)]
theorem Eu (l:List Int):mh.f l l=some true:=by
 unfold mh.f
 simp
theorem qQ {l:List Int} (h:gJ l) (i:Nat) (hi:i+4<=l.length) (hl:l.length<=1000000000):dN.f l (i:Int)=some (vU l i):=by
 unfold dN.f;have e:wrap64 ((i:Int)+2)=((i+2:Nat):Int):=by rw [bZ (by omega) (by omega)];omega
 rw [e,iP h i (by omega) hl,iP h (i+2) (by omega) hl];simp only [bD];rw [Mx (eU h i) (eU h (i+2))]
 rfl
end Go.Proofs.Ytkmimamminddiaa.jJ
namespace Go.Proofs.Ytkmimamminddiaa.Pure
open Go.RowKit Go.Proofs.Ytkmimamminddiaa.PB Go.Proofs.ah.bT Go.Proofs.ah.cY
open Go.Proofs.Ytkmimamminddiaa.Spec Go.Proofs.Ytkmimamminddiaa.jJ
theorem vV {l:List Int} (h:gJ l) (a b:Nat) (hab:b=a+2) (hb:b<=l.length):kG.f ((l.take b).drop a)=some (iX l a):=by
 subst hab;unfold kG.f;have hlen:((l.take (a+2)).drop a).length=2:=by rw [List.length_drop,List.length_take];omega
 rw [hlen,aq (by omega),aq (by omega),Ie l a (a+2) 0 0 rfl (by omega),Ie l a (a+2) 1 1 rfl (by omega),Et (h.getD (a+0)) (h.getD (a+1))]
 rfl
theorem Ul (l:List Int) (a b c d:Nat) (h:a+d<=b):(((l.take b).drop a).take d).drop c=(l.take (a+d)).drop (a+c):=by
 rw [List.take_drop,List.take_take,List.drop_drop,Nat.min_eq_left h]
theorem KE {l:List Int} (h:gJ l) (a b:Nat) (hab:b=a+4) (hb:b<=l.length):pJ.f ((l.take b).drop a)=some (vU l a):=by
 subst hab;unfold pJ.f;have hlen:((l.take (a+4)).drop a).length=4:=by rw [List.length_drop,List.length_take];omega
 rw [hlen,aq (by omega),Ul l a (a+4) 0 2 (by omega),Ul l a (a+4) 2 4 (by omega),vV h (a+0) (a+2) (by omega) (by omega),vV h (a+2) (a+4) (by omega) (by omega)];simp only [bD];rw [Mx (eU h (a+0)) (eU h (a+2))]
 rfl
def My (l:List Int):Int×Int×Int×Int×Int×Int×Int×Int×List Int×List Int×Int:=
 if l.length<20 then (0,0,0,0,0,0,0,0,[],[],20) else if 4*(l.getD 12 0 / 16)<20 then (0,0,0,0,0,0,0,0,[],[],21) else if (l.length:Int)<4*(l.getD 12 0 / 16) then (0,0,0,0,0,0,0,0,[],[],20) else
 (iX l 0,iX l 2,vU l 4,vU l 8,l.getD 13 0,iX l 14,iX l 16,iX l 18,(l.take (4*(l.getD 12 0 / 16)).toNat).drop 20,l.drop (4*(l.getD 12 0 / 16)).toNat,0)
theorem FX {l:List Int} (h:gJ l) (hl:l.length<=1000000000):nT.f l=some (My l):=by
 unfold nT.f My
 by_cases h8:l.length<20
 ·rw [aq (by omega),aq h8]
 have hg:=h.getD 12
 rw [av (by omega),av h8,aq (by omega),gU l 12 12 rfl,gU l 13 13 rfl];obtain ⟨m,hm⟩:∃ m:Int,m=4*(l.getD 12 0 / 16):=⟨_,rfl⟩
 have hw:wrap64 (4*(wrap64 (l.getD 12 0 / 16)))=m:=by rw [bZ (n:=l.getD 12 0 / 16) (by omega) (by omega),bZ (by omega) (by omega),hm]
 rw [hw,<- hm]
 by_cases c1:m<20
 ·rw [aq c1,aq c1]
 rw [av c1,av c1]
 by_cases c2:(l.length:Int)<m
 ·rw [aq c2,aq c2]
 rw [av c2,av c2,aq (by omega),vV h 0 2 rfl (by omega),bD,aq (by omega),vV h 2 4 rfl (by omega),bD,aq (by omega),KE h 4 8 rfl (by omega),bD,aq (by omega),KE h 8 12 rfl (by omega),bD,aq (by omega),aq (by omega),vV h 14 16 rfl (by omega),bD,aq (by omega),vV h 16 18 rfl (by omega),bD,aq (by omega),vV h 18 20 rfl (by omega),bD,aq (by omega),aq (by omega),xH _ (by rw [List.length_drop,List.length_take];omega),bD,aq (by omega),xH _ (by rw [List.length_drop];omega),bD]
theorem Mz {l:List Int} (h:gJ l) (hl:l.length<=1000000000):gT.f l=some (My l):=by
 unfold gT.f My
 by_cases h8:l.length<20
 ·rw [aq (by omega),aq h8]
 have hg:=h.getD 12
 rw [av (by omega),av h8,aq (by omega),gU l 12 12 rfl,gU l 13 13 rfl];obtain ⟨m,hm⟩:∃ m:Int,m=4*(l.getD 12 0 / 16):=⟨_,rfl⟩
 have hw:wrap64 ((wrap64 (l.getD 12 0 / 16))*4)=m:=by rw [bZ (n:=l.getD 12 0 / 16) (by omega) (by omega),bZ (by omega) (by omega),hm];omega
 rw [hw,<- hm];have e0:=iP h 0 (by omega) hl;have e2:=iP h 2 (by omega) hl;have e4:=qQ h 4 (by omega) hl;have e8:=qQ h 8 (by omega) hl;have e14:=iP h 14 (by omega) hl;have ZL:=iP h 16 (by omega) hl;have e18:=iP h 18 (by omega) hl;rw [show ((0:Nat):Int)=0 from rfl] at e0
 rw [show ((2:Nat):Int)=2 from rfl] at e2
 rw [show ((4:Nat):Int)=4 from rfl] at e4
 rw [show ((8:Nat):Int)=8 from rfl] at e8
 rw [show ((14:Nat):Int)=14 from rfl] at e14
 rw [show ((16:Nat):Int)=16 from rfl] at ZL
 rw [show ((18:Nat):Int)=18 from rfl] at e18
 by_cases c1:m<20
 ·rw [aq c1,aq c1]
 rw [av c1,av c1]
 by_cases c2:(l.length:Int)<m
 ·rw [aq c2,aq c2]
 have f1:=Bn l 20 m.toNat (by omega) (by omega) hl
 have f2:=Bn l m.toNat l.length (by omega) (by omega) hl;rw [show ((20:Nat):Int)=20 from rfl,Int.toNat_of_nonneg (by omega)] at f1
 rw [List.take_length,Int.toNat_of_nonneg (by omega)] at f2
 rw [av c2,av c2,e0,bD,e2,bD,e4,bD,e8,bD,aq (by omega),e14,bD,ZL,bD,e18,bD,f1,bD,f2,bD]
def Ok (s d q a f w c u:Int) (o:List Int):List Int:=[s / 256 % 256,s % 256,d / 256 % 256,d % 256,q / 16777216 % 256,q / 65536 % 256,q / 256 % 256,q % 256,a / 16777216 % 256,a / 65536 % 256,a / 256 % 256,a % 256,(20+(o.length:Int)) / 4*16 % 256,f,w / 256 % 256,w % 256,c / 256 % 256,c % 256,u / 256 % 256,u % 256]
def nL (s d q a f w c u:Int) (o l:List Int):List Int:=Ok s d q a f w c u o++(o++l)
def PO (s d q a f w c u:Int) (o l:List Int):List Int×Int:=if (o.length:Int) % 4≠0 \/ (o.length:Int)>40 then ([],21) else if 20+(o.length:Int)+(l.length:Int)>65515 then ([],23) else (nL s d q a f w c u o l,0)
theorem Um:wrap64 ((0:Int)+1)=1:=bZ (by omega) (by omega)
theorem Un:wrap64 ((1:Int)+1)=2:=bZ (by omega) (by omega)
theorem ZM:wrap64 ((2:Int)+1)=3:=bZ (by omega) (by omega)
theorem zm {k:Nat} {x0 x9:List (List Int)} {x3 Cu Gt s i:Int} (h1:Gt<Cu) (h2:0<=Gt) (h3:Gt<(x9.length:Int)) (hs:wrap64 (x3+((qH x9 Gt).length:Int))=s) (h4:0<=s) (hi:wrap64 (Gt+1)=i):aY.l0 (k+1) x0 x3 x9 Cu Gt=aY.l0 k x0 s x9 Cu i:=by
 rw [aY.l0,aq h1,aq h2,aq h3,hs,av (Int.not_lt.2 h4),hi]
theorem zn {k:Nat} {x6:List Int} {Qt:List (List Int)} {VO GR i:Int} (h1:GR<VO) (h2:0<=GR) (h3:GR<(Qt.length:Int)) (h4:x6.length+(qH Qt GR).length<140737488355328) (hi:wrap64 (GR+1)=i):aY.l1 (k+1) x6 Qt VO GR=aY.l1 k (x6++qH Qt GR) Qt VO i:=by
 rw [aY.l1,aq h1,aq h2,aq h3,aq h4,hi]
theorem PR {k:Nat} {x0 x9:List (List Int)} {x3 Cu Gt:Int} (h1:¬ Gt<Cu):aY.l0 (k+1) x0 x3 x9 Cu Gt=(gM.f ([]:List Int) x3).bind fun t=>aY.l1 k t x0 (x0.length:Int) 0:=by
 rw [aY.l0,av h1]
theorem PS {k:Nat} {x6:List Int} {Qt:List (List Int)} {VO GR:Int} (h1:¬ GR<VO):aY.l1 (k+1) x6 Qt VO GR=some x6:=by
 rw [aY.l1,av h1]
theorem PT {n:Int} (h0:0<=n) (h1:n<70368744177664):gM.f ([]:List Int) n=some []:=by
 unfold gM.f;rw [aq h0,aq h1]
theorem KF (x y z:List Int) (hx:x.length<=1000000000) (hy:y.length<=1000000000) (hz:z.length<=1000000000) (k:Nat) (hk:9<=k):aY.f k [x,y,z]=some (x++(y++z)):=by
 obtain ⟨k,rfl⟩:∃ j,k=j+9:=⟨k - 9,by omega⟩
 have hlen:(([x,y,z]:List (List Int)).length:Int)=3:=rfl;have s0:wrap64 (0+(x.length:Int))=(x.length:Int):=by rw [bZ (by omega) (by omega)];omega
 have s1:wrap64 ((x.length:Int)+(y.length:Int))=(x.length:Int)+(y.length:Int):=bZ (by omega) (by omega);have s2:wrap64 ((x.length:Int)+(y.length:Int)+(z.length:Int))=(x.length:Int)+(y.length:Int)+(z.length:Int):=bZ (by omega) (by omega);unfold aY.f;rw [hlen];refine (zm (k:=k+8) (s:=(x.length:Int)) (i:=1) (by omega) (by omega) (by rw [hlen];omega) s0 (by omega) Um).trans ?_;refine (zm (k:=k+7) (s:=(x.length:Int)+(y.length:Int)) (i:=2) (by omega) (by omega) (by rw [hlen];omega) s1 (by omega) Un).trans ?_;refine (zm (k:=k+6) (s:=(x.length:Int)+(y.length:Int)+(z.length:Int)) (i:=3) (by omega) (by omega) (by rw [hlen];omega) s2 (by omega) ZM).trans ?_;refine (PR (k:=k+5) (by omega)).trans ?_
 have h0:(0:Int)<=(x.length:Int)+(y.length:Int)+(z.length:Int):=by omega
 have h1:(x.length:Int)+(y.length:Int)+(z.length:Int)<70368744177664:=by omega
 rw [PT h0 h1,bD,hlen];have l1:(([]:List Int)++x).length+y.length<140737488355328:=by rw [List.nil_append];omega
 have l2:(([]:List Int)++x++y).length+z.length<140737488355328:=by rw [List.nil_append,List.length_append];omega
 refine (zn (k:=k+4) (i:=1) (by omega) (by omega) (by rw [hlen];omega) (show ([]:List Int).length+x.length<140737488355328 by rw [List.length_nil];omega) Um).trans ?_;refine (zn (k:=k+3) (i:=2) (by omega) (by omega) (by rw [hlen];omega) l1 Un).trans ?_;refine (zn (k:=k+2) (i:=3) (by omega) (by omega) (by rw [hlen];omega) l2 ZM).trans ?_;refine (PS (k:=k+1) (by omega)).trans ?_
 show some (([]:List Int)++x++y++z)=some (x++(y++z))
 rw [List.nil_append,List.append_assoc]
theorem PU {s d q a f w c u:Int} {o l:List Int} (ho:o.length<=1000000000) (hl:l.length<=1000000000) (k:Nat) (hk:30<=k):fe.f k s d q a f w c u o l=some (PO s d q a f w c u o l):=by
 obtain ⟨k,rfl⟩:∃ j,k=j+30:=⟨k - 30,by omega⟩
 have w1:wrap64 (20+(o.length:Int))=20+(o.length:Int):=bZ (by omega) (by omega);have w2:wrap64 (20+(o.length:Int)+(l.length:Int))=20+(o.length:Int)+(l.length:Int):=bZ (by omega) (by omega);have n1:=Um;have n2:=Un;unfold fe.f PO
 by_cases c1:(o.length:Int) % 4=0
 ·rw [aq c1]
  by_cases c2:(o.length:Int)>40
  ·rw [bN c2,aq (.inr c2),fe.j0,aq rfl]
  rw [gN c2,av (by omega),fe.j0,av (by decide),w1,w2]
  by_cases c3:20+(o.length:Int)+(l.length:Int)>65515
  ·rw [aq c3,aq c3]
  rw [av c3,av c3,bD]
  have hlen:(([q,a]:List Int).length:Int)=2:=rfl;have r0:rd [q,a] 0=q:=rfl;have r1:rd [q,a] 1=a:=rfl;rw [hlen,fe.l0,aq (by omega),aq (by omega),hlen,aq (by omega),r0,bD,aq (by simp),n1];rw [fe.l0,aq (by omega),aq (by omega),hlen,aq (by omega),r1,bD,aq (by simp),n2];rw [fe.l0,av (by omega),bD,aq (by simp),w1,KF _ _ _ (by simp) (by omega) (by omega) _ (by omega),bD];have e:(20+(o.length:Int)) % 256 / 4*16 % 256=(20+(o.length:Int)) / 4*16 % 256:=by omega
  rw [e]
  rfl
 rw [av c1,aq (.inl c1),fe.j0,aq rfl]
theorem zo {s d q a f w c u:Int} {o l:List Int} (ho:o.length<=1000000000) (hl:l.length<=1000000000) (k:Nat) (hk:30<=k):aD.f k s d q a f w c u o l=some (PO s d q a f w c u o l):=by
 obtain ⟨k,rfl⟩:∃ j,k=j+30:=⟨k - 30,by omega⟩
 have w1:wrap64 (20+(o.length:Int))=20+(o.length:Int):=bZ (by omega) (by omega);unfold aD.f PO
 by_cases c1:(o.length:Int) % 4=0
 ·rw [aq c1]
  by_cases c2:(o.length:Int)>40
  ·rw [bN c2,aq (.inr c2),aD.j0,aq rfl]
  have w2:wrap64 (65515 - (20+(o.length:Int)))=65515 - (20+(o.length:Int)):=bZ (by omega) (by omega)
  rw [gN c2,av (by omega),aD.j0,av (by decide),w1,w2]
  by_cases c3:20+(o.length:Int)+(l.length:Int)>65515
  ·rw [aq (by omega),aq c3]
  have w3:wrap64 (Int.tdiv (20+(o.length:Int)) 4)=(20+(o.length:Int)) / 4:=by rw [Int.tdiv_eq_ediv_of_nonneg (by omega),bZ (by omega) (by omega)]
  have e:(20+(o.length:Int)) / 4 % 256*16 % 256=(20+(o.length:Int)) / 4*16 % 256:=by omega
  rw [av (by omega),av c3,w3,e];unfold bp.f dM.f;rw [bD,aq (by simp),bD,bD,aq (by simp),bD,bD,aq (by simp),bD,bD,aq (by simp),bD,bD,aq (by simp),bD,aq (by simp),bD,bD,aq (by simp),bD,bD,aq (by simp),bD,aq (by simp;omega),bD,aq (by simp;omega),List.append_assoc]
  rfl
 rw [av c1,aq (.inl c1),aD.j0,aq rfl]
theorem PV {s d q a f w c u:Int} {o:List Int} (hf:0<=f /\ f<=255):gJ (Ok s d q a f w c u o):=by
 unfold Ok
 repeat (first|exact .nil|refine .cons (by omega) ?_)
theorem Ig (s d q a f w c u:Int) (o:List Int):(Ok s d q a f w c u o).length=20:=rfl
end Go.Proofs.Ytkmimamminddiaa.Pure
namespace Go.Proofs.Ytkmimamminddiaa.nh
open Go.RowKit Go.Proofs.Ytkmimamminddiaa.PB Go.Proofs.ah.bT Go.Proofs.ah.cY Go.Proofs.Ytkmimamminddiaa.Spec
theorem FY (l:List Int) (i:Int) (j:Nat) (h:i=(j:Int)):rd l i=l.getD j 0:=by subst h;simp [rd]
theorem Ew (l:List Int) (j:Nat) (h:2*j<l.length):(words l).take (j+1)=(words l).take j++[l.getD (2*j) 0*256+l.getD (2*j+1) 0]:=by
 have hl:=kf l;have hg:=Bl l j h;have hj:j<(words l).length:=by omega
 rw [List.getElem?_eq_getElem hj] at hg
 injection hg with hg
 rw [List.take_succ_eq_append_getElem hj,hg]
theorem Uo (l:List Int) (hb:gJ l) (hl:l.length<=1000000000) (d:Nat):∀ (k j:Nat),j+d=(l.length+1) / 2 ->d<k ->
  gX.l0 k l ((words l).take j) (((l.length+1) / 2:Nat):Int) (j:Int)=some (words l):=by
 induction d with
 |zero=>
  intro k j hj hk;obtain ⟨k,rfl⟩:∃ m,k=m+1:=⟨k - 1,by omega⟩
  simp only [gX.l0];rw [av (by omega),List.take_of_length_le (by rw [kf];omega)]
 |succ d ih=>
  intro k j hj hk;obtain ⟨k,rfl⟩:∃ m,k=m+1:=⟨k - 1,by omega⟩
  have e2:wrap64 (2*(j:Int))=((2*j:Nat):Int):=by rw [bZ (by omega) (by omega)];omega
  have e3:wrap64 (((2*j:Nat):Int)+1)=((2*j+1:Nat):Int):=by rw [bZ (by omega) (by omega)];omega
  have e1:wrap64 ((j:Int)+1)=((j+1:Nat):Int):=by rw [bZ (by omega) (by omega)];omega
  have h1:=hb.getD (2*j);have h2:=hb.getD (2*j+1);have hlen:((words l).take j).length<70368744177664:=by rw [List.length_take,kf];omega
  have ht:=Ew l j (by omega);have hi:=ih k (j+1) (by omega) (by omega);simp only [gX.l0,e2,e3,e1];rw [aq (by omega),aq (by omega),aq (by omega),FY l _ (2*j) rfl,FY l _ (2*j+1) rfl];rw [zl (by omega) (by omega:l.getD (2*j) 0<=65535),zl (by omega) (by omega:l.getD (2*j) 0*256<=65535),zl (by omega) (by omega:l.getD (2*j+1) 0<=65535),Mv h1 h2]
  by_cases hc:2*j+1<l.length
  ·rw [aq (by omega),aq (by omega),aq hlen,<- ht]
   exact hi
  have h0:l.getD (2*j+1) 0=0:=by rw [List.getD_eq_getElem?_getD,List.getElem?_eq_none (by omega)];rfl
  rw [av (by omega),aq hlen];rw [h0,Int.add_zero] at ht
  rw [<- ht];exact hi
theorem Uq (l:List Int) (hb:gJ l) (hl:l.length<=1000000000) (k:Nat) (hk:l.length+1<k):gX.f k l=some (words l):=by
 have h:=Uo l hb hl ((l.length+1) / 2) k 0 (by omega) (by omega);unfold gX.f
 have e:wrap64 (Int.tdiv (wrap64 ((l.length:Int)+1)) 2)=(((l.length+1) / 2:Nat):Int):=by
  rw [bZ (n:=(l.length:Int)+1) (by omega) (by omega),Int.tdiv_eq_ediv_of_nonneg (by omega),bZ (by omega) (by omega)];omega
 rw [e]
 simpa using h
theorem Ur {a b:Int} (ha:0<=a /\ a<=4294967295) (hb:0<=b /\ b<=65535):qt.f a b 0=some ((a+b) % 4294967296,(a+b) / 4294967296):=by
 unfold qt.f;rw [KA ha.1 (by omega),KA hb.1 (by omega),KA (n:=a+b) (by omega) (by omega),KA (n:=(0:Int)) (by omega) (by omega),KA (n:=a+b+0) (by omega) (by omega)];rw [Int.add_zero,show ((a+b) / 4294967296) % 4294967296=(a+b) / 4294967296 from by omega]
theorem AdD (ws:List Int) (hw:ZK ws) (hl:ws.length<=1000000000) (d:Nat):∀ (k j:Nat) (s:Int),j+d=ws.length ->d<k ->0<=s ->s<=4294967295 ->
  gE.l0 k s ws (ws.length:Int) (j:Int)=some (Ep s (ws.drop j)):=by
 induction d with
 |zero=>
  intro k j s hj hk h0 h1;obtain ⟨k,rfl⟩:∃ m,k=m+1:=⟨k - 1,by omega⟩
  simp only [gE.l0];rw [av (by omega),List.drop_of_length_le (by omega)]
  rfl
 |succ d ih=>
  intro k j s hj hk h0 h1;obtain ⟨k,rfl⟩:∃ m,k=m+1:=⟨k - 1,by omega⟩
  have hjl:j<ws.length:=by omega
  have hx:=hw _ (List.getElem_mem hjl);have e1:wrap64 ((j:Int)+1)=((j+1:Nat):Int):=by rw [bZ (by omega) (by omega)];omega
  have er:rd ws (j:Int)=ws[j]:=by rw [FY ws _ j rfl,List.getD_eq_getElem?_getD,List.getElem?_eq_getElem hjl];rfl
  have ho:=vT h0 h1 hx;have hi:=ih k (j+1) (wJ s ws[j]) (by omega) (by omega) ho.1 ho.2;simp only [gE.l0,e1,er];rw [aq (by omega),aq (by omega),aq (by omega),show ws[j] % 4294967296=ws[j] from by omega,Ur ⟨h0,h1⟩ hx];simp only [bD];have eo:((s+ws[j]) % 4294967296+(s+ws[j]) / 4294967296) % 4294967296=wJ s ws[j]:=by unfold wJ;split<;>omega
  rw [eo,hi,List.drop_eq_getElem_cons hjl]
  rfl
theorem add_eq (s:Int) (l:List Int) (hb:gJ l) (hl:l.length<=1000000000) (h0:0<=s) (h1:s<=4294967295) (k:Nat) (hk:l.length+1<k):gE.f k s l=some (Ep s (words l)):=by
 unfold gE.f;rw [Uq l hb hl k hk];have hwl:=kf l;have:=AdD (words l) (fN l hb) (by omega) (words l).length k 0 s (by omega) (by omega) h0 h1
 simpa using this
theorem zq {k:Nat} {s:Int} (h0:0<=s) (h1:s<=65535):dU.l0 (k+1) s=some s:=by
 simp only [dU.l0];rw [aq (by omega),zl h0 h1]
theorem FZ {k:Nat} {s:Int} (h0:65536<=s) (h1:s<=4294967295):dU.l0 (k+1) s=dU.l0 k (s % 65536+s / 65536):=by
 simp only [dU.l0];rw [av (by omega),rV (by omega) h1,show (s % 65536+s / 65536) % 4294967296=s % 65536+s / 65536 from by omega]
theorem fold_eq (s:Int) (h0:0<=s) (h1:s<=4294967295) (k:Nat) (hk:3<k):dU.f k s=some (norm s):=by
 obtain ⟨k,rfl⟩:∃ m,k=m+3:=⟨k - 3,by omega⟩
 unfold dU.f
 by_cases c:s<=65535
 ·rw [zq h0 c,Er h0 c]
 rw [FZ (by omega) h1]
 by_cases c2:s % 65536+s / 65536<=65535
 ·rw [zq (by omega) c2]
  congr 1;unfold norm;rw [av (by omega)];omega
 rw [FZ (by omega) (by omega),zq (by omega) (by omega)]
 congr 1;unfold norm;rw [av (by omega)];omega
theorem PW (l:List Int) (hb:gJ l) (hl:l.length<=1000000000) (d:Nat):∀ (k j:Nat),j+d=(l.length+1) / 2 ->d<k ->
  eM.l0 k l ((words l).take j) ((2*j:Nat):Int)=some (words l):=by
 induction d with
 |zero=>
  intro k j hj hk;obtain ⟨k,rfl⟩:∃ m,k=m+1:=⟨k - 1,by omega⟩
  simp only [eM.l0];rw [av (by omega),List.take_of_length_le (by rw [kf];omega)]
 |succ d ih=>
  intro k j hj hk;obtain ⟨k,rfl⟩:∃ m,k=m+1:=⟨k - 1,by omega⟩
  have e3:wrap64 (((2*j:Nat):Int)+1)=((2*j+1:Nat):Int):=by rw [bZ (by omega) (by omega)];omega
  have e1:wrap64 (((2*j:Nat):Int)+2)=((2*(j+1):Nat):Int):=by rw [bZ (by omega) (by omega)];omega
  have h1:=hb.getD (2*j);have h2:=hb.getD (2*j+1);have hlen:((words l).take j).length<70368744177664:=by rw [List.length_take,kf];omega
  have ht:=Ew l j (by omega);have hi:=ih k (j+1) (by omega) (by omega);simp only [eM.l0,e3,e1];rw [aq (by omega),aq (by omega),FY l _ (2*j) rfl,FY l _ (2*j+1) rfl];rw [zl (by omega) (by omega:l.getD (2*j) 0<=65535),zl (by omega) (by omega:l.getD (2*j) 0*256<=65535),zl (by omega) (by omega:l.getD (2*j+1) 0<=65535),Mv h1 h2]
  by_cases hc:2*j+1<l.length
  ·rw [aq (by omega),aq (by omega),aq hlen,<- ht]
   exact hi
  have h0:l.getD (2*j+1) 0=0:=by rw [List.getD_eq_getElem?_getD,List.getElem?_eq_none (by omega)];rfl
  rw [av (by omega),aq hlen];rw [h0,Int.add_zero] at ht
  rw [<- ht];exact hi
theorem PX (l:List Int) (hb:gJ l) (hl:l.length<=1000000000) (k:Nat) (hk:l.length+1<k):eM.f k l=some (words l):=by
 have h:=PW l hb hl ((l.length+1) / 2) k 0 (by omega) (by omega);unfold eM.f
 simpa using h
theorem Xu (ws:List Int) (hw:ZK ws) (hl:ws.length<=1000000000) (d:Nat):∀ (k j:Nat) (s:Int),j+d=ws.length ->d<k ->0<=s ->s<=4294967295 ->
  bW.l0 k s ws (j:Int)=some (Ep s (ws.drop j)):=by
 induction d with
 |zero=>
  intro k j s hj hk h0 h1;obtain ⟨k,rfl⟩:∃ m,k=m+1:=⟨k - 1,by omega⟩
  simp only [bW.l0];rw [av (by omega),List.drop_of_length_le (by omega),show s % 4294967296=s from by omega]
  rfl
 |succ d ih=>
  intro k j s hj hk h0 h1;obtain ⟨k,rfl⟩:∃ m,k=m+1:=⟨k - 1,by omega⟩
  have hjl:j<ws.length:=by omega
  have hx:=hw _ (List.getElem_mem hjl);have e1:wrap64 ((j:Int)+1)=((j+1:Nat):Int):=by rw [bZ (by omega) (by omega)];omega
  have er:rd ws (j:Int)=ws[j]:=by rw [FY ws _ j rfl,List.getD_eq_getElem?_getD,List.getElem?_eq_getElem hjl];rfl
  have ho:=vT h0 h1 hx;have hi:=ih k (j+1) (wJ s ws[j]) (by omega) (by omega) ho.1 ho.2;simp only [bW.l0,e1,er];rw [aq (by omega),aq (by omega),KA (n:=ws[j]) (by omega) (by omega),KA (n:=s+ws[j]) (by omega) (by omega)];rw [List.drop_eq_getElem_cons hjl]
  show _=some (Ep (wJ s ws[j]) (ws.drop (j+1)))
  rw [<- hi]
  by_cases hc:s+ws[j]>4294967295
  ·rw [aq hc]
   congr 1
   rw [IntKind.wrap_u64,IntKind.wrap_u64];unfold wJ;rw [aq hc];omega
  rw [av hc]
  congr 1;unfold wJ;rw [av hc]
theorem yf (s:Int) (l:List Int) (hb:gJ l) (hl:l.length<=1000000000) (h0:0<=s) (h1:s<=4294967295) (k:Nat) (hk:l.length+1<k):bW.f k s l=some (Ep s (words l)):=by
 unfold bW.f;rw [PX l hb hl k hk];have hwl:=kf l;have:=Xu (words l) (fN l hb) (by omega) (words l).length k 0 s (by omega) (by omega) h0 h1;simp only [bD,KA h0 (show s<=18446744073709551615 from by omega)]
 simpa using this
theorem qR (s:Int) (h0:0<=s) (h1:s<=4294967295) (k:Nat) (hk:3<k):bE.f k s=some (norm s):=by
 have hs:∀ {k:Nat} {s:Int},0<=s ->s<=65535 ->bE.l0 (k+1) s=some s:=by
  intro k s h0 h1;simp only [bE.l0];rw [aq (by omega),zl h0 h1]
 have ht:∀ {k:Nat} {s:Int},65536<=s ->s<=4294967295 ->bE.l0 (k+1) s=bE.l0 k (s / 65536+s % 65536):=by
  intro k s h0 h1;simp only [bE.l0];rw [av (by omega),rV (by omega) h1,show (s / 65536+s % 65536) % 4294967296=s / 65536+s % 65536 from by omega]
 obtain ⟨k,rfl⟩:∃ m,k=m+3:=⟨k - 3,by omega⟩
 unfold bE.f
 by_cases c:s<=65535
 ·rw [hs h0 c,Er h0 c]
 rw [ht (by omega) h1]
 by_cases c2:s / 65536+s % 65536<=65535
 ·rw [hs (by omega) c2]
  congr 1;unfold norm;rw [av (by omega)];omega
 rw [ht (by omega) (by omega),hs (by omega) (by omega)]
 congr 1;unfold norm;rw [av (by omega)];omega
theorem F2 (a b c n:Int) (ha:0<=a /\ a<=4294967295) (hb:0<=b /\ b<=4294967295) (hc:0<=c /\ c<=255) (k:Nat) (hk:3<k):
  j5.f k a b c n=some (norm (a / 65536+a % 65536+b / 65536+b % 65536+c+n % 65536)):=by
 unfold j5.f;rw [rV ha.1 ha.2,rV hb.1 hb.2,IntKind.wrap_u16,fold_eq _ (by omega) (by omega) k hk];simp only [bD];have:=iG (a / 65536+a % 65536+b / 65536+b % 65536+c+n % 65536) (by omega);rw [show (a / 65536+a % 65536+b / 65536+b % 65536+c+n % 65536) % 4294967296=a / 65536+a % 65536+b / 65536+b % 65536+c+n % 65536 from by omega]
 congr 1;omega
theorem zu (a b c n:Int) (ha:0<=a /\ a<=4294967295) (hb:0<=b /\ b<=4294967295) (hc:0<=c /\ c<=255) (k:Nat) (hk:3<k):
  eC.f k a b c n=some (norm (a / 65536+a % 65536+b / 65536+b % 65536+c+n % 65536)):=by
 have e64:Go.bits .and .u64 (IntKind.u64.wrap n) 65535=n % 65536:=by
  rw [IntKind.wrap_u64,show (65535:Int)=2 ^ 16 - 1 from by decide,bits_mask .u64 64 (by decide) (fun m h0 h1=>by rw [IntKind.wrap_u64];omega) 16 (by decide) _ (by omega) (by omega)]
  omega
 unfold eC.f;rw [rV ha.1 ha.2,rV hb.1 hb.2,e64,qR _ (by omega) (by omega) k hk];simp only [bD];have:=iG (a / 65536+a % 65536+b / 65536+b % 65536+c+n % 65536) (by omega);rw [show (a / 65536+a % 65536+b / 65536+b % 65536+c+n % 65536) % 4294967296=a / 65536+a % 65536+b / 65536+b % 65536+c+n % 65536 from by omega]
 congr 1;omega
theorem of_eq (l:List Int) (hb:gJ l) (hl:l.length<=1000000000) (k:Nat) (hk:l.length+1<k) (hk3:3<k):mK.f k l=some (ck l):=by
 have hr:=lP (words l) 0 (by omega) (by omega) (fN l hb);have hn:=nY (words l) 0 (by omega) (by omega) (fN l hb);have hp:=iG _ (mD _ (fN l hb));unfold mK.f;rw [add_eq 0 l hb hl (by omega) (by omega) k hk];simp only [bD];rw [fold_eq _ hr.1 hr.2 k hk3,hn,Int.zero_add];simp only [bD];rw [show (IntKind.u16.max:Int)=65535 from rfl,qE hp.1 hp.2]
 rfl
theorem Us (l:List Int) (hb:gJ l) (hl:l.length<=1000000000) (k:Nat) (hk:l.length+1<k) (hk3:3<k):iK.f k l=some (ck l):=by
 have hr:=lP (words l) 0 (by omega) (by omega) (fN l hb);have hn:=nY (words l) 0 (by omega) (by omega) (fN l hb);have hp:=iG _ (mD _ (fN l hb));unfold iK.f;rw [yf 0 l hb hl (by omega) (by omega) k hk];simp only [bD];rw [qR _ hr.1 hr.2 k hk3,hn,Int.zero_add];simp only [bD];rw [show (IntKind.u16.max:Int)=65535 from rfl,qE hp.1 hp.2]
 rfl
end Go.Proofs.Ytkmimamminddiaa.nh
namespace Go.Proofs.Ytkmimamminddiaa.PB
open Go.RowKit Go.Proofs.ah.bT Go.Proofs.ah.cY Go.Proofs.ah.iw
attribute [local go_sem] dI dJ eI eJ cO cP dK dL
theorem Ai8 (d:Nat) (w:World) (x0 y0:Int) (x1 y1:Int):
  (Op.equalIn (d+2) 65 (.agg #[.int .u32 x0,.int .u16 x1]) (.agg #[.int .u32 y0,.int .u16 y1])).run Try.prog w= .ok (x0==y0 && (x1==y1)) w:=by
 refine Aas Try.underlying65 (by kernel_rfl) ?_;refine QZ (by rfl) (by go_simp;rfl) (by go_simp;rfl) (by go_simp) ?_;exact QY (by rfl) (by go_simp;rfl) (by go_simp;rfl) (by go_simp)
attribute [local go_sem] dI dJ eI eJ cO cP dK dL
attribute [local go_sem high] Ai8
def jX.f (k:Nat) (a0:Int) (a1:Int) (ew:Int) (ez:Int) (ee:Int) (jg:Int) (jh:Int) (ji:Int) (kB:Int) (jj:Int) (iz:List Int) (iA:List Int):Option (Bool):=(aD.f k ew ez ee jg jh ji kB jj iz iA).bind fun Ex=>(if Ex.2=0 then ((eC.f k a0 a1 6 (Ex.1.length:Int)).bind fun PY=>((bW.f k PY Ex.1).bind fun PZ=>((bE.f k PZ).bind fun Ut=>(some (Ut==65535))))) else (some false))
theorem jX.calls (k:Nat) (a0:Int) (a1:Int) (ew:Int) (ez:Int) (ee:Int) (jg:Int) (jh:Int) (ji:Int) (kB:Int) (jj:Int) (nl:Option Addr) (nn:Nat) (iz:List Int) (nr:Option Addr) (nu:Nat) (iA:List Int) (r:Bool) (w:World) (xm:Kd.C (Kd.int .u8) w nl iz.length iz) (xo:iz.length<=nn) (xp:Kd.C (Kd.int .u8) w nr iA.length iA) (xq:iA.length<=nu) (h:jX.f k a0 a1 ew ez ee jg jh ji kB jj iz iA=some r):
  Calls Try.prog 99 #[.int .u32 a0,.int .u32 a1,.agg #[.int .u16 ew,.int .u16 ez,.int .u32 ee,.int .u32 jg,.int .u8 jh,.int .u16 ji,.int .u16 kB,.int .u16 jj,.slice nl iz.length nn,.slice nr iA.length nu]] w fun e w'=>e= .returned (.bool r) /\ Below w.heap.size w w':=by
 have uC:=Try.underlying137;have yO:=aa.mk xm;have yP:=aa.mk xo;clear xm xo;have yQ:=aa.mk xp;have yR:=aa.mk xq;clear xp xq;have HB:=gI w;have H:((aD.f k ew ez ee jg jh ji kB jj iz iA).bind fun Ex=>(if Ex.2=0 then ((eC.f k a0 a1 6 (Ex.1.length:Int)).bind fun PY=>((bW.f k PY Ex.1).bind fun PZ=>((bE.f k PZ).bind fun Ut=>(some (Ut==65535))))) else (some false)))=some r:=h;clear h;replace H:=dc H;obtain ⟨⟨Xv,MA⟩,qo,H⟩:=H
 (try dsimp -simprocs only at H)
 have A4:=aa.mk qo;clear qo
 by_cases c5:MA=0
 ·rw [aq c5] at H
  have mJ:(MA==0)=true:=fF c5;have qn:(MA !=0)=false:=kL c5;clear c5;replace H:=dc H;obtain ⟨PY,wD,H⟩:=H
  (try dsimp -simprocs only at H)
  have A6:=aa.mk wD;clear wD;replace H:=dc H;obtain ⟨PZ,BB,H⟩:=H
  (try dsimp -simprocs only at H)
  have A7:=aa.mk BB;clear BB;replace H:=dc H;obtain ⟨Ut,Ke,H⟩:=H
  (try dsimp -simprocs only at H)
  have A8:=aa.mk Ke;clear Ke;obtain rfl:=cN H
  go_enter Try.func99,Try.ntmps99
  go_wp2_with (first|((with_reducible refine aA (N:=5) rfl ?_);(try (refine eP (by rfl) ?_;dsimp only));refine aC ?hg (N:=5) ?hd (cs:= #[.int .u16 ew,.int .u16 ez,.int .u32 ee,.int .u32 jg,.int .u8 jh,.int .u16 ji,.int .u16 kB,.int .u16 jj,.slice nl iz.length nn,.slice nr iA.length nu]) (t:=137) ?hr ?_;(case hd=>rfl);(case hg=>rfl);(case hr=>first|(go_simp;done)|(go_simp;rfl));intro mZ hg w9 bJ hb;have aH:=aa.mk (au (bz HB) hb);have aK:=aa.mk (bJ);have bt:=aa.mk ((by rw [hg];exact (af (bz HB)):w.heap.size<=mZ));have cC:=aa.mk ((by rw [hg];exact (af (bz HB)):w.heap.size<=mZ));clear HB;have HB:=aH;have hU:=aK;have Ai9:=bt;have Aja:=cC;clear aH aK bt cC;clear hb bJ hg;have tB:w9.cell? ⟨mZ,0,none⟩=some (.int .u16 ew):=cz hU.out 0 rfl;have tC:w9.cell? ⟨mZ,1,none⟩=some (.int .u16 ez):=cz hU.out 1 rfl;have tD:w9.cell? ⟨mZ,2,none⟩=some (.int .u32 ee):=cz hU.out 2 rfl;have tE:w9.cell? ⟨mZ,3,none⟩=some (.int .u32 jg):=cz hU.out 3 rfl;have z4:w9.cell? ⟨mZ,4,none⟩=some (.int .u8 jh):=cz hU.out 4 rfl;have CB:w9.cell? ⟨mZ,5,none⟩=some (.int .u16 ji):=cz hU.out 5 rfl;have CC:w9.cell? ⟨mZ,6,none⟩=some (.int .u16 kB):=cz hU.out 6 rfl;have CD:w9.cell? ⟨mZ,7,none⟩=some (.int .u16 jj):=cz hU.out 7 rfl;have CE:w9.cell? ⟨mZ,8,none⟩=some (.slice nl iz.length nn):=cz hU.out 8 rfl;have CF:w9.cell? ⟨mZ,9,none⟩=some (.slice nr iA.length nu):=cz hU.out 9 rfl;have tF:=ae hU.out 0;have tG:=ae hU.out 1;have tH:=ae hU.out 2;have tI:=ae hU.out 3;have z5:=ae hU.out 4;have CG:=ae hU.out 5;have CI:=ae hU.out 6;have CJ:=ae hU.out 7;have CK:=ae hU.out 8;have CL:=ae hU.out 9)|((with_reducible refine az (f:=75) rfl ?_);refine gL 11 Try.func75 #[.agg #[.int .u16 ew,.int .u16 ez,.int .u32 ee,.int .u32 jg,.int .u8 jh,.int .u16 ji,.int .u16 kB,.int .u16 jj,.slice nl iz.length nn,.slice nr iA.length nu]] ?_;(with_reducible refine (aD.calls k ew ez ee jg jh ji kB jj _ _ iz _ _ iA Xv MA _ ?aE ?aG ?uD ?uE A4.out).mono ?_);(case aE=>exact Kd.aW yO.out (bz HB));(case aG=>exact yP.out);(case uD=>exact Kd.aW yQ.out (bz HB));(case uE=>exact yR.out);rintro e sn ⟨AqC,rfl,gC,hb⟩;refine ⟨_,rfl, ?_⟩;have aH:=aa.mk (Kd.bP gC (af (bz HB)));have aK:=aa.mk (bq (kz hU) hb);have bt:=aa.mk (au (bz HB) hb);clear hU;clear HB;have Ey:=aH;have hU:=aK;have HB:=bt;clear aH aK bt;(try clear hb);(try clear hb2);(try clear hk);(try clear hi);(try clear gC);obtain ⟨Ait,Aiu,Ac6⟩:=Kd.dn Ey.out;subst Ac6)|(go_at_call 82;(with_reducible refine (eC.calls k a0 a1 6 (Xv.length:Int) PY _ A6.out).mono ?_);rintro e w' ⟨rfl,⟨nd,rfl⟩⟩)|(go_at_call 80;(with_reducible refine (bW.calls k PY _ _ Xv PZ _ ?aE ?aG A7.out).mono ?_);(case aE=>repeat (first|exact (Kd.ay Ey.out).2.2|(with_reducible refine Kd.fH ?_ _)|(with_reducible refine Kd.fz ?_ _)|(with_reducible refine Kd.gQ ?_)));(case aG=>exact (Kd.ay Ey.out).2.1);rintro e yD ⟨rfl,hb⟩;have aH:=aa.mk (Kd.fX (Kd.rz Ey) hb);have aK:=aa.mk (bq (kz hU) hb);have bt:=aa.mk (au (bz HB) hb);clear Ey;clear hU;clear HB;have Ey:=aH;have hU:=aK;have HB:=bt;clear aH aK bt;(try clear hb);(try clear hb2);(try clear hk);(try clear hi))|(go_at_call 79;(with_reducible refine (bE.calls k PZ Ut _ A8.out).mono ?_);rintro e w' ⟨rfl,⟨nd,rfl⟩⟩))
  go_ret
  exact ⟨by first|rfl|(simp [aj,ak]<;>rfl)|(simp [*,aj,ak]<;>rfl),bz HB⟩
 rw [av c5] at H
 have mJ:(MA==0)=false:=fq c5;have qn:(MA !=0)=true:=lf c5;obtain rfl:=cN H
 go_enter Try.func99,Try.ntmps99
 go_wp2_with (first|((with_reducible refine aA (N:=5) rfl ?_);(try (refine eP (by rfl) ?_;dsimp only));refine aC ?hg (N:=5) ?hd (cs:= #[.int .u16 ew,.int .u16 ez,.int .u32 ee,.int .u32 jg,.int .u8 jh,.int .u16 ji,.int .u16 kB,.int .u16 jj,.slice nl iz.length nn,.slice nr iA.length nu]) (t:=137) ?hr ?_;(case hd=>rfl);(case hg=>rfl);(case hr=>first|(go_simp;done)|(go_simp;rfl));intro mZ hg qY bJ hb;have aH:=aa.mk (au (bz HB) hb);have aK:=aa.mk (bJ);have bt:=aa.mk ((by rw [hg];exact (af (bz HB)):w.heap.size<=mZ));have cC:=aa.mk ((by rw [hg];exact (af (bz HB)):w.heap.size<=mZ));clear HB;have HB:=aH;have hU:=aK;have Ai9:=bt;have Aja:=cC;clear aH aK bt cC;clear hb bJ hg;have WQ:qY.cell? ⟨mZ,0,none⟩=some (.int .u16 ew):=cz hU.out 0 rfl;have WR:qY.cell? ⟨mZ,1,none⟩=some (.int .u16 ez):=cz hU.out 1 rfl;have WS:qY.cell? ⟨mZ,2,none⟩=some (.int .u32 ee):=cz hU.out 2 rfl;have WT:qY.cell? ⟨mZ,3,none⟩=some (.int .u32 jg):=cz hU.out 3 rfl;have WU:qY.cell? ⟨mZ,4,none⟩=some (.int .u8 jh):=cz hU.out 4 rfl;have WV:qY.cell? ⟨mZ,5,none⟩=some (.int .u16 ji):=cz hU.out 5 rfl;have WW:qY.cell? ⟨mZ,6,none⟩=some (.int .u16 kB):=cz hU.out 6 rfl;have WX:qY.cell? ⟨mZ,7,none⟩=some (.int .u16 jj):=cz hU.out 7 rfl;have WY:qY.cell? ⟨mZ,8,none⟩=some (.slice nl iz.length nn):=cz hU.out 8 rfl;have WZ:qY.cell? ⟨mZ,9,none⟩=some (.slice nr iA.length nu):=cz hU.out 9 rfl;have W3:=ae hU.out 0;have W4:=ae hU.out 1;have W5:=ae hU.out 2;have W6:=ae hU.out 3;have W7:=ae hU.out 4;have W8:=ae hU.out 5;have W9:=ae hU.out 6;have Xa:=ae hU.out 7;have Xb:=ae hU.out 8;have Xc:=ae hU.out 9)|((with_reducible refine az (f:=75) rfl ?_);refine gL 11 Try.func75 #[.agg #[.int .u16 ew,.int .u16 ez,.int .u32 ee,.int .u32 jg,.int .u8 jh,.int .u16 ji,.int .u16 kB,.int .u16 jj,.slice nl iz.length nn,.slice nr iA.length nu]] ?_;(with_reducible refine (aD.calls k ew ez ee jg jh ji kB jj _ _ iz _ _ iA Xv MA _ ?aE ?aG ?uD ?uE A4.out).mono ?_);(case aE=>exact Kd.aW yO.out (bz HB));(case aG=>exact yP.out);(case uD=>exact Kd.aW yQ.out (bz HB));(case uE=>exact yR.out);rintro e qJ ⟨AqC,rfl,gC,hb⟩;refine ⟨_,rfl, ?_⟩;have aH:=aa.mk (Kd.bP gC (af (bz HB)));have aK:=aa.mk (bq (kz hU) hb);have bt:=aa.mk (au (bz HB) hb);clear hU;clear HB;have Ey:=aH;have hU:=aK;have HB:=bt;clear aH aK bt;(try clear hb);(try clear hb2);(try clear hk);(try clear hi);(try clear gC)))
 go_ret
 exact ⟨by first|rfl|(simp [aj,ak]<;>rfl)|(simp [*,aj,ak]<;>rfl),bz HB⟩
def jB.f (k:Nat) (aU:Int) (bh:Int) (bn:Int) (bu:Int) (cn:List Int):Option (Bool):=(bG.f aU bh bn bu cn).bind fun KG=>(if KG.2=0 then ((bW.f k 0 KG.1).bind fun P0=>((bE.f k P0).bind fun Uu=>(some (Uu==65535)))) else (some false))
theorem jB.calls (k:Nat) (aU:Int) (bh:Int) (bn:Int) (bu:Int) (fI:Option Addr) (fJ:Nat) (cn:List Int) (r:Bool) (w:World) (jP:Kd.C (Kd.int .u8) w fI cn.length cn) (jQ:cn.length<=fJ) (h:jB.f k aU bh bn bu cn=some r):
  Calls Try.prog 100 #[.agg #[.int .u8 aU,.int .u8 bh,.int .u16 bn,.int .u32 bu,.slice fI cn.length fJ]] w fun e w'=>e= .returned (.bool r) /\ Below w.heap.size w w':=by
 have oA:=Try.underlying101;have oq:=aa.mk jP;have oY:=aa.mk jQ;clear jP jQ;have HB:=gI w;have H:((bG.f aU bh bn bu cn).bind fun KG=>(if KG.2=0 then ((bW.f k 0 KG.1).bind fun P0=>((bE.f k P0).bind fun Uu=>(some (Uu==65535)))) else (some false)))=some r:=h;clear h;replace H:=dc H;obtain ⟨⟨AdE,MB⟩,uM,H⟩:=H
 (try dsimp -simprocs only at H)
 have A2:=aa.mk uM;clear uM
 by_cases c3:MB=0
 ·rw [aq c3] at H
  have oJ:(MB==0)=true:=fF c3;have qI:(MB !=0)=false:=kL c3;clear c3;replace H:=dc H;obtain ⟨P0,qo,H⟩:=H
  (try dsimp -simprocs only at H)
  have A4:=aa.mk qo;clear qo;replace H:=dc H;obtain ⟨Uu,Dw,H⟩:=H
  (try dsimp -simprocs only at H)
  have A5:=aa.mk Dw;clear Dw;obtain rfl:=cN H
  go_enter Try.func100,Try.ntmps100
  go_wp2_with (first|((with_reducible refine aA (N:=1) rfl ?_);refine aC ?hg (N:=1) ?hd (cs:= #[.int .u8 aU,.int .u8 bh,.int .u16 bn,.int .u32 bu,.slice fI cn.length fJ]) (t:=101) ?hr ?_;(case hd=>rfl);(case hg=>rfl);(case hr=>first|(go_simp;done)|(go_simp;rfl));intro sP hg w6 bJ hb;have aH:=aa.mk (au (bz HB) hb);have aK:=aa.mk (bJ);have bt:=aa.mk ((by rw [hg];exact (af (bz HB)):w.heap.size<=sP));have cC:=aa.mk ((by rw [hg];exact (af (bz HB)):w.heap.size<=sP));clear HB;have HB:=aH;have kR:=aK;have Ajb:=bt;have Ajc:=cC;clear aH aK bt cC;clear hb bJ hg;have uZ:w6.cell? ⟨sP,0,none⟩=some (.int .u8 aU):=cz kR.out 0 rfl;have vk:w6.cell? ⟨sP,1,none⟩=some (.int .u8 bh):=cz kR.out 1 rfl;have vn:w6.cell? ⟨sP,2,none⟩=some (.int .u16 bn):=cz kR.out 2 rfl;have vp:w6.cell? ⟨sP,3,none⟩=some (.int .u32 bu):=cz kR.out 3 rfl;have wX:w6.cell? ⟨sP,4,none⟩=some (.slice fI cn.length fJ):=cz kR.out 4 rfl;have vq:=ae kR.out 0;have vu:=ae kR.out 1;have vv:=ae kR.out 2;have vw:=ae kR.out 3;have wY:=ae kR.out 4)|((with_reducible refine az (f:=55) rfl ?_);refine gL 7 Try.func55 #[.agg #[.int .u8 aU,.int .u8 bh,.int .u16 bn,.int .u32 bu,.slice fI cn.length fJ]] ?_;(with_reducible refine (bG.calls aU bh bn bu _ _ cn AdE MB _ ?aE ?aG A2.out).mono ?_);(case aE=>exact Kd.aW oq.out (bz HB));(case aG=>exact oY.out);rintro e w8 ⟨AqD,rfl,gC,hb⟩;refine ⟨_,rfl, ?_⟩;have aH:=aa.mk (Kd.bP gC (af (bz HB)));have aK:=aa.mk (bq (kz kR) hb);have bt:=aa.mk (au (bz HB) hb);clear kR;clear HB;have Ez:=aH;have kR:=aK;have HB:=bt;clear aH aK bt;(try clear hb);(try clear hb2);(try clear hk);(try clear hi);(try clear gC);obtain ⟨Ao9,co9,eo9⟩:=Kd.dn Ez.out;subst eo9)|(go_at_call 80;(with_reducible refine (bW.calls k 0 _ _ AdE P0 _ ?aE ?aG A4.out).mono ?_);(case aE=>repeat (first|exact (Kd.ay Ez.out).2.2|(with_reducible refine Kd.fH ?_ _)|(with_reducible refine Kd.fz ?_ _)|(with_reducible refine Kd.gQ ?_)));(case aG=>exact (Kd.ay Ez.out).2.1);rintro e ku ⟨rfl,hb⟩;have aH:=aa.mk (Kd.fX (Kd.rz Ez) hb);have aK:=aa.mk (bq (kz kR) hb);have bt:=aa.mk (au (bz HB) hb);clear Ez;clear kR;clear HB;have Ez:=aH;have kR:=aK;have HB:=bt;clear aH aK bt;(try clear hb);(try clear hb2);(try clear hk);(try clear hi))|(go_at_call 79;(with_reducible refine (bE.calls k P0 Uu _ A5.out).mono ?_);rintro e w' ⟨rfl,⟨nd,rfl⟩⟩))
  go_ret
  exact ⟨by first|rfl|(simp [aj,ak]<;>rfl)|(simp [*,aj,ak]<;>rfl),bz HB⟩
 rw [av c3] at H
 have oJ:(MB==0)=false:=fq c3;have qI:(MB !=0)=true:=lf c3;obtain rfl:=cN H
 go_enter Try.func100,Try.ntmps100
 go_wp2_with (first|((with_reducible refine aA (N:=1) rfl ?_);refine aC ?hg (N:=1) ?hd (cs:= #[.int .u8 aU,.int .u8 bh,.int .u16 bn,.int .u32 bu,.slice fI cn.length fJ]) (t:=101) ?hr ?_;(case hd=>rfl);(case hg=>rfl);(case hr=>first|(go_simp;done)|(go_simp;rfl));intro sP hg sn bJ hb;have aH:=aa.mk (au (bz HB) hb);have aK:=aa.mk (bJ);have bt:=aa.mk ((by rw [hg];exact (af (bz HB)):w.heap.size<=sP));have cC:=aa.mk ((by rw [hg];exact (af (bz HB)):w.heap.size<=sP));clear HB;have HB:=aH;have kR:=aK;have Ajb:=bt;have Ajc:=cC;clear aH aK bt cC;clear hb bJ hg;have Amd:sn.cell? ⟨sP,0,none⟩=some (.int .u8 aU):=cz kR.out 0 rfl;have Ame:sn.cell? ⟨sP,1,none⟩=some (.int .u8 bh):=cz kR.out 1 rfl;have Amf:sn.cell? ⟨sP,2,none⟩=some (.int .u16 bn):=cz kR.out 2 rfl;have Amg:sn.cell? ⟨sP,3,none⟩=some (.int .u32 bu):=cz kR.out 3 rfl;have Amh:sn.cell? ⟨sP,4,none⟩=some (.slice fI cn.length fJ):=cz kR.out 4 rfl;have Ami:=ae kR.out 0;have Amj:=ae kR.out 1;have Amk:=ae kR.out 2;have Aml:=ae kR.out 3;have Amm:=ae kR.out 4)|((with_reducible refine az (f:=55) rfl ?_);refine gL 7 Try.func55 #[.agg #[.int .u8 aU,.int .u8 bh,.int .u16 bn,.int .u32 bu,.slice fI cn.length fJ]] ?_;(with_reducible refine (bG.calls aU bh bn bu _ _ cn AdE MB _ ?aE ?aG A2.out).mono ?_);(case aE=>exact Kd.aW oq.out (bz HB));(case aG=>exact oY.out);rintro e yD ⟨AqD,rfl,gC,hb⟩;refine ⟨_,rfl, ?_⟩;have aH:=aa.mk (Kd.bP gC (af (bz HB)));have aK:=aa.mk (bq (kz kR) hb);have bt:=aa.mk (au (bz HB) hb);clear kR;clear HB;have Ez:=aH;have kR:=aK;have HB:=bt;clear aH aK bt;(try clear hb);(try clear hb2);(try clear hk);(try clear hi);(try clear gC)))
 go_ret
 exact ⟨by first|rfl|(simp [aj,ak]<;>rfl)|(simp [*,aj,ak]<;>rfl),bz HB⟩
def m9.f (aU:Int) (bh:Int) (bn:Int) (bu:Int) (cn:List Int):Option (Bool):=if aU=8 then (some (bh==0)) else (if aU=0 then (some (bh==0)) else (some false))
theorem m9.calls (aU:Int) (bh:Int) (bn:Int) (bu:Int) (fI:Option Addr) (fJ:Nat) (cn:List Int) (r:Bool) (w:World) (jP:Kd.C (Kd.int .u8) w fI cn.length cn) (jQ:cn.length<=fJ) (h:m9.f aU bh bn bu cn=some r):
  Calls Try.prog 101 #[.agg #[.int .u8 aU,.int .u8 bh,.int .u16 bn,.int .u32 bu,.slice fI cn.length fJ]] w fun e w'=>e= .returned (.bool r) /\ Below w.heap.size w w':=by
 have oA:=Try.underlying101;have oq:=aa.mk jP;have oY:=aa.mk jQ;clear jP jQ;have HB:=gI w;have H:(if aU=8 then (some (bh==0)) else (if aU=0 then (some (bh==0)) else (some false)))=some r:=h;clear h
 by_cases c2:aU=8
 ·rw [aq c2] at H
  have j4:(aU==8)=true:=fF c2;have mq:(aU !=8)=false:=kL c2;clear c2;obtain rfl:=cN H
  go_enter Try.func101,Try.ntmps101
  go_wp2_with (first|((with_reducible refine aA (N:=1) rfl ?_);refine aC ?hg (N:=1) ?hd (cs:= #[.int .u8 aU,.int .u8 bh,.int .u16 bn,.int .u32 bu,.slice fI cn.length fJ]) (t:=101) ?hr ?_;(case hd=>rfl);(case hg=>rfl);(case hr=>first|(go_simp;done)|(go_simp;rfl));intro nM hg w3 bJ hb;have aH:=aa.mk (au (bz HB) hb);have aK:=aa.mk (bJ);have bt:=aa.mk ((by rw [hg];exact (af (bz HB)):w.heap.size<=nM));have cC:=aa.mk ((by rw [hg];exact (af (bz HB)):w.heap.size<=nM));clear HB;have HB:=aH;have kp:=aK;have ZN:=bt;have ZO:=cC;clear aH aK bt cC;clear hb bJ hg;have pK:w3.cell? ⟨nM,0,none⟩=some (.int .u8 aU):=cz kp.out 0 rfl;have pL:w3.cell? ⟨nM,1,none⟩=some (.int .u8 bh):=cz kp.out 1 rfl;have pM:w3.cell? ⟨nM,2,none⟩=some (.int .u16 bn):=cz kp.out 2 rfl;have pN:w3.cell? ⟨nM,3,none⟩=some (.int .u32 bu):=cz kp.out 3 rfl;have uj:w3.cell? ⟨nM,4,none⟩=some (.slice fI cn.length fJ):=cz kp.out 4 rfl;have pO:=ae kp.out 0;have pP:=ae kp.out 1;have pQ:=ae kp.out 2;have pR:=ae kp.out 3;have uk:=ae kp.out 4))
  go_ret
  exact ⟨by first|rfl|(simp [aj,ak]<;>rfl)|(simp [*,aj,ak]<;>rfl),bz HB⟩
 rw [av c2] at H
 have j4:(aU==8)=false:=fq c2;have mq:(aU !=8)=true:=lf c2
 by_cases c5:aU=0
 ·rw [aq c5] at H
  have mJ:(aU==0)=true:=fF c5;have qn:(aU !=0)=false:=kL c5;clear c5;obtain rfl:=cN H
  go_enter Try.func101,Try.ntmps101
  go_wp2_with (first|((with_reducible refine aA (N:=1) rfl ?_);refine aC ?hg (N:=1) ?hd (cs:= #[.int .u8 aU,.int .u8 bh,.int .u16 bn,.int .u32 bu,.slice fI cn.length fJ]) (t:=101) ?hr ?_;(case hd=>rfl);(case hg=>rfl);(case hr=>first|(go_simp;done)|(go_simp;rfl));intro nM hg w6 bJ hb;have aH:=aa.mk (au (bz HB) hb);have aK:=aa.mk (bJ);have bt:=aa.mk ((by rw [hg];exact (af (bz HB)):w.heap.size<=nM));have cC:=aa.mk ((by rw [hg];exact (af (bz HB)):w.heap.size<=nM));clear HB;have HB:=aH;have kp:=aK;have ZN:=bt;have ZO:=cC;clear aH aK bt cC;clear hb bJ hg;have uZ:w6.cell? ⟨nM,0,none⟩=some (.int .u8 aU):=cz kp.out 0 rfl;have vk:w6.cell? ⟨nM,1,none⟩=some (.int .u8 bh):=cz kp.out 1 rfl;have vn:w6.cell? ⟨nM,2,none⟩=some (.int .u16 bn):=cz kp.out 2 rfl;have vp:w6.cell? ⟨nM,3,none⟩=some (.int .u32 bu):=cz kp.out 3 rfl;have wX:w6.cell? ⟨nM,4,none⟩=some (.slice fI cn.length fJ):=cz kp.out 4 rfl;have vq:=ae kp.out 0;have vu:=ae kp.out 1;have vv:=ae kp.out 2;have vw:=ae kp.out 3;have wY:=ae kp.out 4))
  go_ret
  exact ⟨by first|rfl|(simp [aj,ak]<;>rfl)|(simp [*,aj,ak]<;>rfl),bz HB⟩
 rw [av c5] at H
 have mJ:(aU==0)=false:=fq c5;have qn:(aU !=0)=true:=lf c5;obtain rfl:=cN H
 go_enter Try.func101,Try.ntmps101
 go_wp2_with (first|((with_reducible refine aA (N:=1) rfl ?_);refine aC ?hg (N:=1) ?hd (cs:= #[.int .u8 aU,.int .u8 bh,.int .u16 bn,.int .u32 bu,.slice fI cn.length fJ]) (t:=101) ?hr ?_;(case hd=>rfl);(case hg=>rfl);(case hr=>first|(go_simp;done)|(go_simp;rfl));intro nM hg w8 bJ hb;have aH:=aa.mk (au (bz HB) hb);have aK:=aa.mk (bJ);have bt:=aa.mk ((by rw [hg];exact (af (bz HB)):w.heap.size<=nM));have cC:=aa.mk ((by rw [hg];exact (af (bz HB)):w.heap.size<=nM));clear HB;have HB:=aH;have kp:=aK;have ZN:=bt;have ZO:=cC;clear aH aK bt cC;clear hb bJ hg;have Dy:w8.cell? ⟨nM,0,none⟩=some (.int .u8 aU):=cz kp.out 0 rfl;have Dz:w8.cell? ⟨nM,1,none⟩=some (.int .u8 bh):=cz kp.out 1 rfl;have DA:w8.cell? ⟨nM,2,none⟩=some (.int .u16 bn):=cz kp.out 2 rfl;have DB:w8.cell? ⟨nM,3,none⟩=some (.int .u32 bu):=cz kp.out 3 rfl;have GV:w8.cell? ⟨nM,4,none⟩=some (.slice fI cn.length fJ):=cz kp.out 4 rfl;have DC:=ae kp.out 0;have DD:=ae kp.out 1;have DE:=ae kp.out 2;have DF:=ae kp.out 3;have GW:=ae kp.out 4))
 go_ret
 exact ⟨by first|rfl|(simp [aj,ak]<;>rfl)|(simp [*,aj,ak]<;>rfl),bz HB⟩
def mm.f (aU:Int) (bh:Int) (bn:Int) (bu:Int) (cn:List Int):Option (Bool):=if aU=3 then (some true) else (if aU=11 then (some true) else (some (aU==12)))
theorem mm.calls (aU:Int) (bh:Int) (bn:Int) (bu:Int) (fI:Option Addr) (fJ:Nat) (cn:List Int) (r:Bool) (w:World) (jP:Kd.C (Kd.int .u8) w fI cn.length cn) (jQ:cn.length<=fJ) (h:mm.f aU bh bn bu cn=some r):
  Calls Try.prog 102 #[.agg #[.int .u8 aU,.int .u8 bh,.int .u16 bn,.int .u32 bu,.slice fI cn.length fJ]] w fun e w'=>e= .returned (.bool r) /\ Below w.heap.size w w':=by
 have oA:=Try.underlying101;have oq:=aa.mk jP;have oY:=aa.mk jQ;clear jP jQ;have HB:=gI w;have H:(if aU=3 then (some true) else (if aU=11 then (some true) else (some (aU==12))))=some r:=h;clear h
 by_cases c2:aU=3
 ·rw [aq c2] at H
  have j4:(aU==3)=true:=fF c2;have mq:(aU !=3)=false:=kL c2;clear c2;obtain rfl:=cN H
  go_enter Try.func102,Try.ntmps102
  go_wp2_with (first|((with_reducible refine aA (N:=1) rfl ?_);refine aC ?hg (N:=1) ?hd (cs:= #[.int .u8 aU,.int .u8 bh,.int .u16 bn,.int .u32 bu,.slice fI cn.length fJ]) (t:=101) ?hr ?_;(case hd=>rfl);(case hg=>rfl);(case hr=>first|(go_simp;done)|(go_simp;rfl));intro nN hg w3 bJ hb;have aH:=aa.mk (au (bz HB) hb);have aK:=aa.mk (bJ);have bt:=aa.mk ((by rw [hg];exact (af (bz HB)):w.heap.size<=nN));have cC:=aa.mk ((by rw [hg];exact (af (bz HB)):w.heap.size<=nN));clear HB;have HB:=aH;have kr:=aK;have ZP:=bt;have ZQ:=cC;clear aH aK bt cC;clear hb bJ hg;have pK:w3.cell? ⟨nN,0,none⟩=some (.int .u8 aU):=cz kr.out 0 rfl;have pL:w3.cell? ⟨nN,1,none⟩=some (.int .u8 bh):=cz kr.out 1 rfl;have pM:w3.cell? ⟨nN,2,none⟩=some (.int .u16 bn):=cz kr.out 2 rfl;have pN:w3.cell? ⟨nN,3,none⟩=some (.int .u32 bu):=cz kr.out 3 rfl;have uj:w3.cell? ⟨nN,4,none⟩=some (.slice fI cn.length fJ):=cz kr.out 4 rfl;have pO:=ae kr.out 0;have pP:=ae kr.out 1;have pQ:=ae kr.out 2;have pR:=ae kr.out 3;have uk:=ae kr.out 4))
  go_ret
  exact ⟨by first|rfl|(simp [aj,ak]<;>rfl)|(simp [*,aj,ak]<;>rfl),bz HB⟩
 rw [av c2] at H
 have j4:(aU==3)=false:=fq c2;have mq:(aU !=3)=true:=lf c2
 by_cases c5:aU=11
 ·rw [aq c5] at H
  have mJ:(aU==11)=true:=fF c5;have qn:(aU !=11)=false:=kL c5;clear c5;obtain rfl:=cN H
  go_enter Try.func102,Try.ntmps102
  go_wp2_with (first|((with_reducible refine aA (N:=1) rfl ?_);refine aC ?hg (N:=1) ?hd (cs:= #[.int .u8 aU,.int .u8 bh,.int .u16 bn,.int .u32 bu,.slice fI cn.length fJ]) (t:=101) ?hr ?_;(case hd=>rfl);(case hg=>rfl);(case hr=>first|(go_simp;done)|(go_simp;rfl));intro nN hg w6 bJ hb;have aH:=aa.mk (au (bz HB) hb);have aK:=aa.mk (bJ);have bt:=aa.mk ((by rw [hg];exact (af (bz HB)):w.heap.size<=nN));have cC:=aa.mk ((by rw [hg];exact (af (bz HB)):w.heap.size<=nN));clear HB;have HB:=aH;have kr:=aK;have ZP:=bt;have ZQ:=cC;clear aH aK bt cC;clear hb bJ hg;have uZ:w6.cell? ⟨nN,0,none⟩=some (.int .u8 aU):=cz kr.out 0 rfl;have vk:w6.cell? ⟨nN,1,none⟩=some (.int .u8 bh):=cz kr.out 1 rfl;have vn:w6.cell? ⟨nN,2,none⟩=some (.int .u16 bn):=cz kr.out 2 rfl;have vp:w6.cell? ⟨nN,3,none⟩=some (.int .u32 bu):=cz kr.out 3 rfl;have wX:w6.cell? ⟨nN,4,none⟩=some (.slice fI cn.length fJ):=cz kr.out 4 rfl;have vq:=ae kr.out 0;have vu:=ae kr.out 1;have vv:=ae kr.out 2;have vw:=ae kr.out 3;have wY:=ae kr.out 4))
  go_ret
  exact ⟨by first|rfl|(simp [aj,ak]<;>rfl)|(simp [*,aj,ak]<;>rfl),bz HB⟩
 rw [av c5] at H
 have mJ:(aU==11)=false:=fq c5;have qn:(aU !=11)=true:=lf c5;obtain rfl:=cN H
 go_enter Try.func102,Try.ntmps102
 go_wp2_with (first|((with_reducible refine aA (N:=1) rfl ?_);refine aC ?hg (N:=1) ?hd (cs:= #[.int .u8 aU,.int .u8 bh,.int .u16 bn,.int .u32 bu,.slice fI cn.length fJ]) (t:=101) ?hr ?_;(case hd=>rfl);(case hg=>rfl);(case hr=>first|(go_simp;done)|(go_simp;rfl));intro nN hg w8 bJ hb;have aH:=aa.mk (au (bz HB) hb);have aK:=aa.mk (bJ);have bt:=aa.mk ((by rw [hg];exact (af (bz HB)):w.heap.size<=nN));have cC:=aa.mk ((by rw [hg];exact (af (bz HB)):w.heap.size<=nN));clear HB;have HB:=aH;have kr:=aK;have ZP:=bt;have ZQ:=cC;clear aH aK bt cC;clear hb bJ hg;have Dy:w8.cell? ⟨nN,0,none⟩=some (.int .u8 aU):=cz kr.out 0 rfl;have Dz:w8.cell? ⟨nN,1,none⟩=some (.int .u8 bh):=cz kr.out 1 rfl;have DA:w8.cell? ⟨nN,2,none⟩=some (.int .u16 bn):=cz kr.out 2 rfl;have DB:w8.cell? ⟨nN,3,none⟩=some (.int .u32 bu):=cz kr.out 3 rfl;have GV:w8.cell? ⟨nN,4,none⟩=some (.slice fI cn.length fJ):=cz kr.out 4 rfl;have DC:=ae kr.out 0;have DD:=ae kr.out 1;have DE:=ae kr.out 2;have DF:=ae kr.out 3;have GW:=ae kr.out 4))
 go_ret
 exact ⟨by first|rfl|(simp [aj,ak]<;>rfl)|(simp [*,aj,ak]<;>rfl),bz HB⟩
def ld.f (k:Nat) (a0:Int) (a1:Int) (a2:Int):Option (Int):=(bE.f k ((Go.bits .xor .u16 IntKind.u16.max a0+(Go.bits .xor .u16 IntKind.u16.max a1)+(a2)) % 4294967296)).bind fun Uv=>(some (Go.bits .xor .u16 IntKind.u16.max Uv))
theorem ld.calls (k:Nat) (a0:Int) (a1:Int) (a2:Int) (r:Int) (w:World) (h:ld.f k a0 a1 a2=some r):
  Calls Try.prog 92 #[.int .u16 a0,.int .u16 a1,.int .u16 a2] w fun e w'=>e= .returned (.int .u16 r) /\ bB w w':=by
 have zQ:IntKind.u16.signed=false:=rfl;have H:((bE.f k ((Go.bits .xor .u16 IntKind.u16.max a0+(Go.bits .xor .u16 IntKind.u16.max a1)+(a2)) % 4294967296)).bind fun Uv=>(some (Go.bits .xor .u16 IntKind.u16.max Uv)))=some r:=h;clear h;replace H:=dc H;obtain ⟨Uv,qo,H⟩:=H
 (try dsimp -simprocs only at H)
 have A4:=aa.mk qo;clear qo;obtain rfl:=cN H
 go_enter Try.func92,Try.ntmps92
 go_wp2_with (first|((with_reducible refine az (f:=79) rfl ?_);refine gL 17 Try.func79 #[.int .u32 ((Go.bits .xor .u16 IntKind.u16.max a0+(Go.bits .xor .u16 IntKind.u16.max a1)+(a2)) % 4294967296)] ?_;(with_reducible refine (bE.calls k ((Go.bits .xor .u16 IntKind.u16.max a0+(Go.bits .xor .u16 IntKind.u16.max a1)+(a2)) % 4294967296) Uv _ A4.out).mono ?_);rintro e w' ⟨rfl,⟨nd,rfl⟩⟩;refine ⟨_,rfl, ?_⟩))
 go_ret
 exact ⟨by first|rfl|(simp;done)|(simp [*];done),by repeat (first|exact bB.refl _|apply bB.step)⟩
end Go.Proofs.Ytkmimamminddiaa.PB
namespace Go.Proofs.Ytkmimamminddiaa.Pure
open Go.RowKit Go.Proofs.Ytkmimamminddiaa.PB Go.Proofs.ah.bT Go.Proofs.ah.cY
open Go.Proofs.Ytkmimamminddiaa.Spec Go.Proofs.Ytkmimamminddiaa.jJ
def tT (a b:Int) (x:List Int):Int:=norm (a / 65536+a % 65536+b / 65536+b % 65536+6+(x.length:Int) % 65536)+kW (words x)
theorem P1 {a b:Int} {x:List Int} (ha:0<=a) (hb:0<=b) (h:gJ x):0<=tT a b x:=by
 have h1:=iG (a / 65536+a % 65536+b / 65536+b % 65536+6+(x.length:Int) % 65536) (by omega);have h2:=mD _ (fN x h);unfold tT
 omega
theorem sQ {s d q k f w c u:Int} {o l:List Int} (hf:0<=f /\ f<=255) (ho:gJ o) (hl:gJ l):gJ (nL s d q k f w c u o l):=(PV hf).append (ho.append hl)
theorem qF (s d q k f w c u:Int) (o l:List Int):(nL s d q k f w c u o l).length=20+o.length+l.length:=by
 unfold nL;rw [List.length_append,List.length_append,Ig]
 omega
section
variable {a b s d q k f w c u:Int} {o l:List Int}
theorem CX (h4:(o.length:Int) % 4=0) (wG:(o.length:Int)<=40) (hl:(l.length:Int)<=3000):PO s d q k f w c u o l=(nL s d q k f w c u o l,0):=by
 unfold PO;rw [av (by omega),av (by omega)]
theorem Uw (ha:0<=a /\ a<=4294967295) (hb:0<=b /\ b<=4294967295) {x:List Int} (hx:gJ x) (hl:x.length<=3100) (K:Nat) (hK:4000<=K):((j5.f K a b 6 (x.length:Int)).bind fun t=>(gE.f K t x).bind fun t2=>dU.f K t2)=some (norm (tT a b x)) /\ ((eC.f K a b 6 (x.length:Int)).bind fun t=>(bW.f K t x).bind fun t2=>bE.f K t2)=some (norm (tT a b x)):=by
 have hp:=iG (a / 65536+a % 65536+b / 65536+b % 65536+6+(x.length:Int) % 65536) (by omega);have hr:=lP (words x) _ hp.1 (by omega) (fN _ hx);have hn:=nY (words x) _ hp.1 (by omega) (fN _ hx)
 constructor
 ·rw [nh.F2 a b 6 _ ha hb (by omega) K (by omega),bD,nh.add_eq _ _ hx (by omega) hp.1 (by omega) K (by omega),bD,nh.fold_eq _ hr.1 hr.2 K (by omega),hn]
  rfl
 ·rw [nh.zu a b 6 _ ha hb (by omega) K (by omega),bD,nh.yf _ _ hx (by omega) hp.1 (by omega) K (by omega),bD,nh.qR _ hr.1 hr.2 K (by omega),hn]
  rfl
theorem P2 (ha:0<=a /\ a<=4294967295) (hb:0<=b /\ b<=4294967295) (hf:0<=f /\ f<=255) (ho:gJ o) (h4:(o.length:Int) % 4=0) (wG:(o.length:Int)<=40) (h:gJ l) (hl:(l.length:Int)<=3000) (K:Nat) (hK:4000<=K):nX.f K a b s d q k f w c u o l=some (norm (tT a b (nL s d q k f w c u o l)),true):=by
 have hL:=qF s d q k f w c u o l;obtain ⟨x,hx⟩:∃ x,x=nL s d q k f w c u o l:=⟨_,rfl⟩
 have hB:gJ x:=by rw [hx];exact sQ hf ho h
 have h1:=(Uw ha hb hB (by rw [hx];omega) K hK).1;unfold nX.f;rw [PU (by omega) (by omega) K (by omega),CX h4 wG hl,<- hx,bD];obtain ⟨t1,e1,h1⟩:=Option.bind_eq_some_iff.1 h1;obtain ⟨t2,e2,h1⟩:=Option.bind_eq_some_iff.1 h1
 dsimp only
 rw [e1,bD,e2,bD,h1,bD]
 rfl
theorem P3 (ha:0<=a /\ a<=4294967295) (hb:0<=b /\ b<=4294967295) (hf:0<=f /\ f<=255) (ho:gJ o) (h4:(o.length:Int) % 4=0) (wG:(o.length:Int)<=40) (h:gJ l) (hl:(l.length:Int)<=3000) (K:Nat) (hK:4000<=K):o8.f K a b s d q k f w c u o l=some (norm (tT a b (nL s d q k f w c u o l))==65535):=by
 unfold o8.f;rw [P2 ha hb hf ho h4 wG h hl K hK,bD,aq rfl]
theorem Ux (ha:0<=a /\ a<=4294967295) (hb:0<=b /\ b<=4294967295) (hf:0<=f /\ f<=255) (ho:gJ o) (h4:(o.length:Int) % 4=0) (wG:(o.length:Int)<=40) (h:gJ l) (hl:(l.length:Int)<=3000) (K:Nat) (hK:4000<=K):iR.f K a b s d q k f w c u o l=some (65535 - norm (tT a b (nL s d q k f w 0 u o l))):=by
 have hL:=qF s d q k f w 0 u o l;have hn:=iG _ (P1 ha.1 hb.1 (sQ (s:=s) (d:=d) (q:=q) (k:=k) (w:=w) (c:=0) (u:=u) hf ho h));obtain ⟨x,hx⟩:∃ x,x=nL s d q k f w 0 u o l:=⟨_,rfl⟩
 have hB:gJ x:=by rw [hx];exact sQ hf ho h
 have h1:=(Uw ha hb hB (by rw [hx];omega) K hK).2;unfold iR.f;rw [<- hx] at hn|-
 rw [zo (by omega) (by omega) K (by omega),CX h4 wG hl,<- hx,bD];obtain ⟨t1,e1,h1⟩:=Option.bind_eq_some_iff.1 h1;obtain ⟨t2,e2,h1⟩:=Option.bind_eq_some_iff.1 h1
 dsimp only
 rw [aq rfl,e1,bD,e2,bD,h1,bD,show (IntKind.u16.max:Int)=65535 from rfl,qE hn.1 hn.2]
theorem MC (ha:0<=a /\ a<=4294967295) (hb:0<=b /\ b<=4294967295) (hf:0<=f /\ f<=255) (ho:gJ o) (h4:(o.length:Int) % 4=0) (wG:(o.length:Int)<=40) (h:gJ l) (hl:(l.length:Int)<=3000) (K:Nat) (hK:4000<=K):jX.f K a b s d q k f w c u o l=some (norm (tT a b (nL s d q k f w c u o l))==65535):=by
 have hL:=qF s d q k f w c u o l;obtain ⟨x,hx⟩:∃ x,x=nL s d q k f w c u o l:=⟨_,rfl⟩
 have hB:gJ x:=by rw [hx];exact sQ hf ho h
 have h1:=(Uw ha hb hB (by rw [hx];omega) K hK).2;unfold jX.f;rw [<- hx,zo (by omega) (by omega) K (by omega),CX h4 wG hl,<- hx,bD];obtain ⟨t1,e1,h1⟩:=Option.bind_eq_some_iff.1 h1;obtain ⟨t2,e2,h1⟩:=Option.bind_eq_some_iff.1 h1
 dsimp only
 rw [aq rfl,e1,bD,e2,bD,h1,bD]
end
end Go.Proofs.Ytkmimamminddiaa.Pure
