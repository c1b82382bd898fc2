/- Texts of this claim, merged: PBx53, RwLk, PBx54, RwPt0, RwLookV, RwLkI, RwLkB, RwPtI, RwLkU, RwLkT, RwLook, RwLookL, RwPtU, RwPtT, RwPtd. -/
import Derived.Test.YtkmimamminddiaaZpb
import Derived.Test.YtkmimamminddiaaZpc
import Derived.Deep.Cut
import Derived.Deep.CutRange
import Derived.Deep.CutBlock
import Derived.Deep.WholeRow
set_option maxHeartbeats 40000000
set_option maxRecDepth 100000
set_option linter.unusedVariables false
set_option linter.unusedSimpArgs false
namespace Go.Proofs.Ytkmimamminddiaa.PB
open Go.RowKit Go.Proofs.ai.bX Go.Proofs.ai.dh Go.Proofs.ai.iL
attribute [local go_sem] dF dG eG eH cQ cR dH dI
def cV.f (k:Nat) (l0:List Int):Option ((List (nj))×Bool):=(cn.f k l0).bind fun oP=>(if oP.2=true then (if 0<=oP.1 then (if oP.1<=(l0.length:Int) then ((cW.f (l0.drop (oP.1:Int).toNat)).bind fun yG=>(if 0<=(wrap64 (oP.1+2)) then (if (wrap64 (oP.1+2))<=(l0.length:Int) then ((cW.f (l0.drop ((wrap64 (oP.1+2)):Int).toNat)).bind fun yh=>(if 9<(l0.length:Int) then (if (rd l0 9)=1 then (if 0<=(wrap64 (oP.1+4)) then (if (wrap64 (oP.1+4))<=(l0.length:Int) then ((cW.f (l0.drop ((wrap64 (oP.1+4)):Int).toNat)).bind fun qm=>(if 12<=(l0.length:Int) then ((dR.f (l0.drop 12)).bind fun wY=>(if 16<=(l0.length:Int) then ((dR.f (l0.drop 16)).bind fun wZ=>(some ((([(⟨wY,qm⟩:nj),(⟨wZ,qm⟩:nj)]:List (nj))),true))) else (none))) else (none))) else (none)) else (none)) else (if 12<=(l0.length:Int) then ((dR.f (l0.drop 12)).bind fun yH=>(if 16<=(l0.length:Int) then ((dR.f (l0.drop 16)).bind fun yI=>(some ((([(⟨yH,yG⟩:nj),(⟨yI,yh⟩:nj)]:List (nj))),true))) else (none))) else (none))) else (none))) else (none)) else (none))) else (none)) else (none)) else (some (([]:List (nj)),false)))
def cV.T4:Bool×List (List Nat×List Nat):=(true,[([],[]),([],[]),([0,1],[0,1]),([2],[2]),([],[]),([],[]),([5],[5]),([4,6],[4,6]),([7,3],[7]),([3,8,0,1,2,3],[3]),([8,9,0,1,2,3,4,5,6,7,8,9],[8])])
def cV.B4:List Nat:=[0,0,3,7,0,0,32,112,255,511,1023]
theorem cV.Uw:gS .any (opsOf Try.f104 4)=cV.T4:=by kernel_rfl
theorem cV.MM:dN cV.T4.2 cV.B4=true:=by kernel_rfl
def cV.T8:Bool×List (List Nat×List Nat):=(true,[([],[]),([0],[0]),([1],[1]),([],[]),([2,3],[2,3]),([],[]),([5],[5]),([6,2],[6]),([],[]),([7,8],[7,8]),([4,9],[4,9]),([10,7,0,1,2,3,4,5,6,7,8,9,10],[10]),([11,0,1,2,3,4,5,6,7,8,9,10,11],[])])
def cV.B8:List Nat:=[0,1,3,0,15,0,32,103,0,487,1023,2047,4095]
theorem cV.Ek:gS .any (opsOf Try.f104 8)=cV.T8:=by kernel_rfl
theorem cV.yq:dN cV.T8.2 cV.B8=true:=by kernel_rfl
theorem cV.calls (k:Nat) (A0:Option Addr) (c0:Nat) (l0:List Int) (r1:List (nj)) (r2:Bool) (w:World) (hr0:Kd.C (Kd.int .u8) w A0 l0.length l0) (hc0:l0.length<=c0) (h:cV.f k l0=some (r1,r2)):
  Calls Try.prog 104 #[.slice A0 l0.length c0] w fun e w'=>∃ o6:Value,e= .returned (.tuple #[o6,.bool r2]) /\ Kd.R EG 65 w' w.heap.size (fun _=>True) o6 r1 /\ Below w.heap.size w w':=by
 have iQ:=Try.underlying65;have gh:=aa.mk hr0;have jC:=aa.mk hc0;clear hr0 hc0;have HB:=gj w
 have H:((cn.f k l0).bind fun oP=>(if oP.2=true then (if 0<=oP.1 then (if oP.1<=(l0.length:Int) then ((cW.f (l0.drop (oP.1:Int).toNat)).bind fun yG=>(if 0<=(wrap64 (oP.1+2)) then (if (wrap64 (oP.1+2))<=(l0.length:Int) then ((cW.f (l0.drop ((wrap64 (oP.1+2)):Int).toNat)).bind fun yh=>(if 9<(l0.length:Int) then (if (rd l0 9)=1 then (if 0<=(wrap64 (oP.1+4)) then (if (wrap64 (oP.1+4))<=(l0.length:Int) then ((cW.f (l0.drop ((wrap64 (oP.1+4)):Int).toNat)).bind fun qm=>(if 12<=(l0.length:Int) then ((dR.f (l0.drop 12)).bind fun wY=>(if 16<=(l0.length:Int) then ((dR.f (l0.drop 16)).bind fun wZ=>(some ((([(⟨wY,qm⟩:nj),(⟨wZ,qm⟩:nj)]:List (nj))),true))) else (none))) else (none))) else (none)) else (none)) else (if 12<=(l0.length:Int) then ((dR.f (l0.drop 12)).bind fun yH=>(if 16<=(l0.length:Int) then ((dR.f (l0.drop 16)).bind fun yI=>(some ((([(⟨yH,yG⟩:nj),(⟨yI,yh⟩:nj)]:List (nj))),true))) else (none))) else (none))) else (none))) else (none)) else (none))) else (none)) else (none)) else (some (([]:List (nj)),false))))=some (r1,r2):=h
 clear h;replace H:=cZ H;obtain ⟨⟨nH,AmI⟩,uJ,H⟩:=H
 (try dsimp -simprocs only at H)
 have A2:=aa.mk uJ;clear uJ
 by_cases c3:AmI=true
 ·subst c3
  have H1:(if 0<=nH then (if nH<=(l0.length:Int) then ((cW.f (l0.drop (nH:Int).toNat)).bind fun yG=>(if 0<=(wrap64 (nH+2)) then (if (wrap64 (nH+2))<=(l0.length:Int) then ((cW.f (l0.drop ((wrap64 (nH+2)):Int).toNat)).bind fun yh=>(if 9<(l0.length:Int) then (if (rd l0 9)=1 then (if 0<=(wrap64 (nH+4)) then (if (wrap64 (nH+4))<=(l0.length:Int) then ((cW.f (l0.drop ((wrap64 (nH+4)):Int).toNat)).bind fun qm=>(if 12<=(l0.length:Int) then ((dR.f (l0.drop 12)).bind fun wY=>(if 16<=(l0.length:Int) then ((dR.f (l0.drop 16)).bind fun wZ=>(some ((([(⟨wY,qm⟩:nj),(⟨wZ,qm⟩:nj)]:List (nj))),true))) else (none))) else (none))) else (none)) else (none)) else (if 12<=(l0.length:Int) then ((dR.f (l0.drop 12)).bind fun yH=>(if 16<=(l0.length:Int) then ((dR.f (l0.drop 16)).bind fun yI=>(some ((([(⟨yH,yG⟩:nj),(⟨yI,yh⟩:nj)]:List (nj))),true))) else (none))) else (none))) else (none))) else (none)) else (none))) else (none)) else (none))=some (r1,r2):=by rw [au rfl] at H;exact H
  clear H;have H:=H1;clear H1
  by_cases c4:0<=nH
  ·rw [au c4] at H
   have mH:=eq_true c4;have xQ:decide (0<=nH)=true:=bS c4;clear c4
   by_cases c5:nH<=(l0.length:Int)
   ·rw [au c5] at H
    have mS:=eq_true c5;have qz:decide (nH<=(l0.length:Int))=true:=bS c5;clear c5;replace H:=cZ H;obtain ⟨yG,wq,H⟩:=H
    (try dsimp -simprocs only at H)
    have A6:=aa.mk wq;clear wq;obtain ⟨yt,zi⟩:∃ j_:Int,(wrap64 (nH+2))=j_:=⟨_,rfl⟩
    replace H:(if 0<=(yt) then (if (yt)<=(l0.length:Int) then ((cW.f (l0.drop ((yt):Int).toNat)).bind fun yh=>(if 9<(l0.length:Int) then (if (rd l0 9)=1 then (if 0<=(wrap64 (nH+4)) then (if (wrap64 (nH+4))<=(l0.length:Int) then ((cW.f (l0.drop ((wrap64 (nH+4)):Int).toNat)).bind fun qm=>(if 12<=(l0.length:Int) then ((dR.f (l0.drop 12)).bind fun wY=>(if 16<=(l0.length:Int) then ((dR.f (l0.drop 16)).bind fun wZ=>(some ((([(⟨wY,qm⟩:nj),(⟨wZ,qm⟩:nj)]:List (nj))),true))) else (none))) else (none))) else (none)) else (none)) else (if 12<=(l0.length:Int) then ((dR.f (l0.drop 12)).bind fun yH=>(if 16<=(l0.length:Int) then ((dR.f (l0.drop 16)).bind fun yI=>(some ((([(⟨yH,yG⟩:nj),(⟨yI,yh⟩:nj)]:List (nj))),true))) else (none))) else (none))) else (none))) else (none)) else (none))=some (r1,r2):=by first|(rw [zi] at H;exact H)|(simp only [zi] at H|-;exact H)
    (try rw [zi] at A2)
    (try rw [zi] at A6)
    have AdK:(IntKind.i64.wrap (nH+2))=yt:=(jk _).trans zi
    by_cases c8:0<=(yt)
    ·rw [au c8] at H
     have nX:=eq_true c8;have CB:decide (0<=(yt))=true:=bS c8;clear c8
     by_cases c9:(yt)<=(l0.length:Int)
     ·rw [au c9] at H
      have wT:=eq_true c9;have NK:decide ((yt)<=(l0.length:Int))=true:=bS c9;clear c9;replace H:=cZ H;obtain ⟨yh,zm,H⟩:=H
      (try dsimp -simprocs only at H)
      have KL:=aa.mk zm;clear zm
      by_cases ru:9<(l0.length:Int)
      ·rw [au ru] at H
       have Bb:decide (9<(l0.length:Int))=true:=bS ru;have Mp:decide (9<l0.length)=true:=bS (by omega);clear ru
       by_cases uO:(rd l0 9)=1
       ·rw [au uO] at H
        have EK:((rd l0 9)==1)=true:=fH uO;have Mq:((rd l0 9) !=1)=false:=kO uO;clear uO;obtain ⟨pM,tK⟩:∃ j_:Int,(wrap64 (nH+4))=j_:=⟨_,rfl⟩
        replace H:(if 0<=(pM) then (if (pM)<=(l0.length:Int) then ((cW.f (l0.drop ((pM):Int).toNat)).bind fun qm=>(if 12<=(l0.length:Int) then ((dR.f (l0.drop 12)).bind fun wY=>(if 16<=(l0.length:Int) then ((dR.f (l0.drop 16)).bind fun wZ=>(some ((([(⟨wY,qm⟩:nj),(⟨wZ,qm⟩:nj)]:List (nj))),true))) else (none))) else (none))) else (none)) else (none))=some (r1,r2):=by first|(rw [tK] at H;exact H)|(simp only [tK] at H|-;exact H)
        (try rw [tK] at A2)
        (try rw [tK] at A6)
        (try rw [tK] at KL)
        have AaF:(IntKind.i64.wrap (nH+4))=pM:=(jk _).trans tK
        by_cases Cb:0<=(pM)
        ·rw [au Cb] at H
         have C8:=eq_true Cb;have QX:decide (0<=(pM))=true:=bS Cb;clear Cb
         by_cases wP:(pM)<=(l0.length:Int)
         ·rw [au wP] at H
          have wQ:=eq_true wP;have EJ:decide ((pM)<=(l0.length:Int))=true:=bS wP;clear wP;replace H:=cZ H;obtain ⟨qm,wR,H⟩:=H
          (try dsimp -simprocs only at H)
          have O6:=aa.mk wR;clear wR
          by_cases rL:12<=(l0.length:Int)
          ·rw [au rL] at H
           have Ib:=eq_true rL;have PT:decide (12<=(l0.length:Int))=true:=bS rL;clear rL;replace H:=cZ H;obtain ⟨wY,wS,H⟩:=H
           (try dsimp -simprocs only at H)
           have NJ:=aa.mk wS;clear wS
           by_cases Aj:16<=(l0.length:Int)
           ·rw [au Aj] at H
            have PU:=eq_true Aj;have We:decide (16<=(l0.length:Int))=true:=bS Aj;clear Aj;replace H:=cZ H;obtain ⟨wZ,Cz,H⟩:=H
            (try dsimp -simprocs only at H)
            have uJ:=aa.mk Cz;clear Cz;obtain ⟨Atm,QY⟩:∃ y_:List (nj),y_=(([(⟨wY,qm⟩:nj),(⟨wZ,qm⟩:nj)]:List (nj))):=⟨_,rfl⟩
            rw [<- QY] at H
            have W7:=aa.mk QY;clear QY;simp only [Option.some.injEq,Prod.mk.injEq] at H
            obtain ⟨rfl,rfl⟩:=H
            go_enter Try.func104,Try.ntmps104
            try go_wp2_with (first|((with_reducible refine ay (f:=86) rfl ?_);refine gL 10 Try.func86 #[.slice A0 l0.length c0] ?_;(with_reducible refine (cn.calls k _ _ l0 nH true _ ?aG ?aH A2.out).mono ?_);(case aG=>repeat (first|exact gh.out|(with_reducible refine Kd.fD ?_ _)|(with_reducible refine Kd.fj ?_ _)|(with_reducible refine Kd.gP ?_)));(case aH=>exact jC.out);rintro e w21 ⟨rfl,hb⟩;refine ⟨_,rfl, ?_⟩;have aJ:=aa.mk (aq (bz HB) hb);clear HB;have HB:=aJ;clear aJ;(try clear hb);(try clear hb2);(try clear hk);(try clear hi)))
            have aJ:=aa.mk (bf HB.out);clear HB;have HB:=aJ;clear aJ;obtain ⟨Atn,W8,_,W9,_⟩:=info_parts gB;obtain ⟨A23,AmJ,AeR,AeS⟩:=fR (P:=Try.prog) (Value.int .u8) 0 23 5 .i64 Try.underlying23 W8 W9 A0 c0 l0 nH gD gD jC.out;have I9:=aa.mk (Kd.dD (h1:=fun _=>rfl) (AeR _ (Kd.dc gh.out)));have QZ:=aa.mk AeS;clear AeR AeS W8 W9;obtain ⟨Ato,Xa,_,Xb,_⟩:=info_parts gB
            obtain ⟨A24,AmL,AeT,AeU⟩:=fR (P:=Try.prog) (Value.int .u8) 0 23 5 .i64 Try.underlying23 Xa Xb A0 c0 l0 (yt) gD gD jC.out;have Ja:=aa.mk (Kd.dD (h1:=fun _=>rfl) (AeT _ (Kd.dc gh.out)));have Q9:=aa.mk AeU;clear AeT AeU Xa Xb;refine dg (n:=11) (S:=fun w'=>True) (ds:=[]) #[false,false,false,false,false,false,false,false,false,false,false] (by kernel_rfl) rfl rfl trivial (fun hHeld=> ?_);refine bH cV.Uw cV.MM (fun az dW=> ?_);generalize w21.drew=Ra at HB I9 Ja hHeld|-
            refine pz 0 15 az ?_;refine pz 1 16 az ?_;refine pz 2 17 az ?_;refine pz 4 19 az ?_;refine pz 5 20 az ?_;refine pz 6 21 az ?_;refine pz 7 22 az ?_;refine oz 3 (some 18) az (fun K hK=> ?_);refine kF Try.func87 (by kernel_rfl) rfl #[.slice A23 (l0.drop (nH:Int).toNat).length (c0 - nH.toNat)] (by rfl) rfl rfl (by (try simp only [List.map_toArray,List.map_cons,List.map_nil]);first|done|(rw [show (l0.drop (nH:Int).toNat).length=(l0.length - nH.toNat) from List.length_drop]<;>rfl)|rfl|(simp only [List.length_drop,List.length_take];rfl)|(go_simp;done)|(simp [Act.eval,IntKind.signed];done)|(simp [Act.eval,IntKind.signed];rfl)) ?_
            with_reducible refine (cW.calls _ _ (l0.drop (nH:Int).toNat) yG _ ?aG ?aH A6.out).mono ?_
            (case aG=>exact Kd.aU I9.out (bz HB))
            (case aH=>exact QZ.out)
            rintro e w' ⟨rfl,⟨nd,rfl⟩⟩;refine ⟨_,rfl, ?_⟩;refine hK.out _ _ trivial (fun hHeld=> ?_);clear hK K;refine nz 18 ?_;refine oz 8 (some 23) az (fun K hK=> ?_);refine kF Try.func87 (by kernel_rfl) rfl #[.slice A24 (l0.drop ((yt):Int).toNat).length (c0 - (yt).toNat)] (by rfl) rfl rfl (by (try simp only [List.map_toArray,List.map_cons,List.map_nil]);first|done|(rw [show (l0.drop ((yt):Int).toNat).length=(l0.length - (yt).toNat) from List.length_drop]<;>rfl)|(simp only [zi];rfl)|rfl|(simp only [List.length_drop,List.length_take];rfl)|(go_simp;done)|(simp [Act.eval,IntKind.signed];done)|(simp [Act.eval,IntKind.signed];rfl)) ?_
            with_reducible refine (cW.calls _ _ (l0.drop ((yt):Int).toNat) yh _ ?aG ?aH KL.out).mono ?_
            (case aG=>exact Kd.aU Ja.out (bz HB))
            (case aH=>exact Q9.out)
            rintro e w' ⟨rfl,⟨nd,rfl⟩⟩;refine ⟨_,rfl, ?_⟩;refine hK.out _ _ trivial (fun hHeld=> ?_);clear hK K;refine nz 23 ?_;refine pz 9 6 az ?_;refine pz 10 7 az ?_;refine dz az ?_;have Lk:0<=(9:Int):=(by omega)
            have Ll:9<(l0.length:Int):=gD;obtain ⟨EV,AaK,pY⟩:=Kd.dB gh.out 9 Lk Ll
            cases AaK
            (try simp only [show (9:Int).toNat=9 from rfl,Nat.reduceMul,Nat.reduceEqDiff,Go.Addr.add,↓reduceIte] at pY)
            have AeV:(9<l0.length)=True:=eq_true (by omega)
            (try rw [show ((9:Int)).toNat=9 from rfl] at pY)
            replace pY:=(HB.out.cell (dA w _ pY)).trans pY;replace Lk:=eq_true Lk;replace Ll:=eq_true Ll;obtain ⟨Ak3,Ie,_,Ig,_⟩:=info_parts gB;obtain ⟨A25,Y2,PW,PX⟩:=fR (P:=Try.prog) (Value.int .u8) 0 23 5 .i64 Try.underlying23 Ie Ig (some EV) c0 l0 (pM) gD gD jC.out;have AeW:=aa.mk (Kd.dD (h1:=fun _=>rfl) (PW _ (Kd.dc gh.out)));have AeX:=aa.mk PX;clear PW PX Ie Ig
            try go_wp2_with (first|((with_reducible refine ay (f:=87) rfl ?_);refine tQ (some 32) rfl rfl Try.func87 (by kernel_rfl) rfl #[.slice A25 (l0.drop ((pM):Int).toNat).length (c0 - (pM).toNat)] rfl (by (try simp only [List.map_toArray,List.map_cons,List.map_nil]);first|done|(rw [show (l0.drop ((pM):Int).toNat).length=(l0.length - (pM).toNat) from List.length_drop]<;>rfl)|(simp only [tK];rfl)|rfl|(simp only [List.length_drop,List.length_take];rfl)|(go_simp;done)|(simp [Act.eval,IntKind.signed];done)|(simp [Act.eval,IntKind.signed];rfl)) ?_;(with_reducible refine (cW.calls _ _ (l0.drop ((pM):Int).toNat) qm _ ?aG ?aH O6.out).mono ?_);(case aG=>exact Kd.aU AeW.out (bz HB));(case aH=>exact AeX.out);rintro e w' ⟨rfl,⟨nd,rfl⟩⟩;refine ⟨_,rfl, ?_⟩))
            (try (rw [fg Ra];generalize j5:World.drewN Ra _=Ra;have aJ:aa (Below w.heap.size w Ra):=⟨by rw [<- j5];exact bz HB⟩;clear HB j5;have HB:=aJ;clear aJ))
            have aJ:=aa.mk (bf HB.out);clear HB;have HB:=aJ;clear aJ;obtain ⟨Ak4,Ih,_,Ii,_⟩:=info_parts gB;obtain ⟨A27,Y3,PY,PZ⟩:=fR (P:=Try.prog) (Value.int .u8) 0 23 5 .i64 Try.underlying23 Ih Ii (some EV) c0 l0 12 (by omega) gD jC.out;have Xc:=aa.mk (Kd.dD (h1:=fun _=>rfl) (PY _ (Kd.dc gh.out)));have AeY:=aa.mk PZ;clear PY PZ Ih Ii;obtain ⟨Ak6,Ij,_,Ik,_⟩:=info_parts gB;obtain ⟨A28,Y4,P0,P1⟩:=fR (P:=Try.prog) (Value.int .u8) 0 23 5 .i64 Try.underlying23 Ij Ik (some EV) c0 l0 16 (by omega) gD jC.out
            have Xd:=aa.mk (Kd.dD (h1:=fun _=>rfl) (P0 _ (Kd.dc gh.out)));have AeZ:=aa.mk P1;clear P0 P1 Ij Ik;refine dg (n:=13) (S:=fun w'=>True) (ds:=[]) #[false,false,false,false,false,false,false,false,false,false,false,false,false] (by kernel_rfl) rfl rfl trivial (fun hHeld=> ?_);refine bH cV.Ek cV.yq (fun az dW=> ?_);generalize Ra.drew=w26 at HB Xc Xd hHeld|-
            refine pz 0 34 az ?_;refine pz 1 35 az ?_;refine pz 3 37 az ?_;refine pz 5 39 az ?_;refine pz 6 40 az ?_;refine pz 8 42 az ?_;refine oz 2 (some 36) az (fun K hK=> ?_);refine kF Try.func124 (by kernel_rfl) rfl #[.slice A27 (l0.drop 12).length (c0 - 12)] (by rfl) rfl rfl (by (try simp only [List.map_toArray,List.map_cons,List.map_nil]);first|done|(rw [show (l0.drop 12).length=(l0.length - 12) from List.length_drop]<;>rfl)|rfl|(simp only [List.length_drop,List.length_take];rfl)|(go_simp;done)|(simp [Act.eval,IntKind.signed];done)|(simp [Act.eval,IntKind.signed];rfl)) ?_
            with_reducible refine (dR.calls _ _ (l0.drop 12) wY _ ?aG ?aH NJ.out).mono ?_
            (case aG=>exact Kd.aU Xc.out (bz HB))
            (case aH=>exact AeY.out)
            rintro e w' ⟨rfl,⟨nd,rfl⟩⟩;refine ⟨_,rfl, ?_⟩;refine hK.out _ _ trivial (fun hHeld=> ?_);clear hK K;refine nz 36 ?_;refine pz 4 38 az ?_;refine oz 7 (some 41) az (fun K hK=> ?_);refine kF Try.func124 (by kernel_rfl) rfl #[.slice A28 (l0.drop 16).length (c0 - 16)] (by rfl) rfl rfl (by (try simp only [List.map_toArray,List.map_cons,List.map_nil]);first|done|(rw [show (l0.drop 16).length=(l0.length - 16) from List.length_drop]<;>rfl)|rfl|(simp only [List.length_drop,List.length_take];rfl)|(go_simp;done)|(simp [Act.eval,IntKind.signed];done)|(simp [Act.eval,IntKind.signed];rfl)) ?_
            with_reducible refine (dR.calls _ _ (l0.drop 16) wZ _ ?aG ?aH uJ.out).mono ?_
            (case aG=>exact Kd.aU Xd.out (bz HB))
            (case aH=>exact AeZ.out)
            rintro e w' ⟨rfl,⟨nd,rfl⟩⟩;refine ⟨_,rfl, ?_⟩;refine hK.out _ _ trivial (fun hHeld=> ?_);clear hK K;refine nz 41 ?_;refine pz 9 43 az ?_;refine oz 10 (some 44) az (fun K hK=> ?_)
            refine Kd.qw EG _ 65 ?hg (N:=44) ?hd (xs:=([(⟨wY,qm⟩:nj),(⟨wZ,qm⟩:nj)]:List (nj))) (inner:=[.int .u32 wY,.int .u16 qm,.int .u32 wZ,.int .u16 qm]) (ok:=fun _=>True) (rq:=fun _=>True) ?hr ?hp (fun _ hk=>hk) trivial (Below.refl _ _) (Nat.le_refl _) (by simp) ?_;(case hd=>rfl);(case hg=>rfl);(case hr=>first|(go_simp;done)|(go_simp;rfl));(case hp=>exact (cI.c2 (show Kd.M EG _ _ _ (⟨wY,qm⟩:nj) [.int .u32 wY,.int .u16 qm] from (xD _ _ _ (⟨wY,qm⟩:nj))) (cI.c2 (show Kd.M EG _ _ _ (⟨wZ,qm⟩:nj) [.int .u32 wZ,.int .u16 qm] from (xD _ _ _ (⟨wZ,qm⟩:nj))) (cI.none _ _))));intro Atp w29 Rb hb gJ iM;clear gJ iM
            (first|rw [<- W7.out] at Rb|(simp only [Int.reduceToNat] at Rb;rw [<- W7.out] at Rb))
            have aJ:=aa.mk (Kd.bP Rb (af (bz HB)));have aQ:=aa.mk (aq (bz HB) hb);clear HB;have Ae0:=aJ;have HB:=aQ;clear aJ aQ;clear hb Rb;refine hK.out _ _ trivial (fun hHeld=> ?_);clear hK K;refine nz 44 ?_;refine pz 11 2 az ?_;refine pz 12 3 az ?_;refine dz az ?_
            try go_wp2
            go_ret2
            exact ⟨_,by first|rfl|(simp [aj,ak]<;>rfl)|(simp only [<- zi,<- tK];first|rfl|(simp [aj,ak]<;>rfl))|(simp [*,aj,ak]<;>rfl),by (with_reducible repeat (first|apply Kd.eX|apply Kd.eT|apply Kd.eY));exact Ae0.out,bz HB⟩
           ·rw [ax Aj] at H
            cases H
          ·rw [ax rL] at H
           cases H
         ·rw [ax wP] at H
          cases H
        ·rw [ax Cb] at H
         cases H
       ·rw [ax uO] at H
        have EK:((rd l0 9)==1)=false:=fc uO;have Mq:((rd l0 9) !=1)=true:=lA uO
        by_cases Qk:12<=(l0.length:Int)
        ·rw [au Qk] at H
         have Ad3:=eq_true Qk;have Ad4:decide (12<=(l0.length:Int))=true:=bS Qk;clear Qk;replace H:=cZ H;obtain ⟨yH,Rc,H⟩:=H
         (try dsimp -simprocs only at H)
         have A32:=aa.mk Rc;clear Rc
         by_cases c33:16<=(l0.length:Int)
         ·rw [au c33] at H
          have AqE:=eq_true c33;have AqF:decide (16<=(l0.length:Int))=true:=bS c33;clear c33;replace H:=cZ H;obtain ⟨yI,Ae2,H⟩:=H
          (try dsimp -simprocs only at H)
          have A34:=aa.mk Ae2;clear Ae2;obtain ⟨Ats,Rd⟩:∃ y_:List (nj),y_=(([(⟨yH,yG⟩:nj),(⟨yI,yh⟩:nj)]:List (nj))):=⟨_,rfl⟩
          rw [<- Rd] at H
          have Xe:=aa.mk Rd;clear Rd;simp only [Option.some.injEq,Prod.mk.injEq] at H
          obtain ⟨rfl,rfl⟩:=H
          go_enter Try.func104,Try.ntmps104
          try go_wp2_with (first|((with_reducible refine ay (f:=86) rfl ?_);refine gL 10 Try.func86 #[.slice A0 l0.length c0] ?_;(with_reducible refine (cn.calls k _ _ l0 nH true _ ?aG ?aH A2.out).mono ?_);(case aG=>repeat (first|exact gh.out|(with_reducible refine Kd.fD ?_ _)|(with_reducible refine Kd.fj ?_ _)|(with_reducible refine Kd.gP ?_)));(case aH=>exact jC.out);rintro e Ak ⟨rfl,hb⟩;refine ⟨_,rfl, ?_⟩;have aJ:=aa.mk (aq (bz HB) hb);clear HB;have HB:=aJ;clear aJ;(try clear hb);(try clear hb2);(try clear hk);(try clear hi)))
          have aJ:=aa.mk (bf HB.out);clear HB;have HB:=aJ;clear aJ;obtain ⟨AlN,IB,_,IC,_⟩:=info_parts gB;obtain ⟨A37,ZO,Qp,Qq⟩:=fR (P:=Try.prog) (Value.int .u8) 0 23 5 .i64 Try.underlying23 IB IC A0 c0 l0 nH gD gD jC.out;have I9:=aa.mk (Kd.dD (h1:=fun _=>rfl) (Qp _ (Kd.dc gh.out)));have QZ:=aa.mk Qq;clear Qp Qq IB IC;obtain ⟨AlP,ID,_,IE,_⟩:=info_parts gB
          obtain ⟨A38,ZP,Qr,Qs⟩:=fR (P:=Try.prog) (Value.int .u8) 0 23 5 .i64 Try.underlying23 ID IE A0 c0 l0 (yt) gD gD jC.out;have Ja:=aa.mk (Kd.dD (h1:=fun _=>rfl) (Qr _ (Kd.dc gh.out)));have Q9:=aa.mk Qs;clear Qr Qs ID IE;refine dg (n:=11) (S:=fun w'=>True) (ds:=[]) #[false,false,false,false,false,false,false,false,false,false,false] (by kernel_rfl) rfl rfl trivial (fun hHeld=> ?_);refine bH cV.Uw cV.MM (fun az dW=> ?_);generalize Ak.drew=TZ at HB I9 Ja hHeld|-
          refine pz 0 15 az ?_;refine pz 1 16 az ?_;refine pz 2 17 az ?_;refine pz 4 19 az ?_;refine pz 5 20 az ?_;refine pz 6 21 az ?_;refine pz 7 22 az ?_;refine oz 3 (some 18) az (fun K hK=> ?_);refine kF Try.func87 (by kernel_rfl) rfl #[.slice A37 (l0.drop (nH:Int).toNat).length (c0 - nH.toNat)] (by rfl) rfl rfl (by (try simp only [List.map_toArray,List.map_cons,List.map_nil]);first|done|(rw [show (l0.drop (nH:Int).toNat).length=(l0.length - nH.toNat) from List.length_drop]<;>rfl)|rfl|(simp only [List.length_drop,List.length_take];rfl)|(go_simp;done)|(simp [Act.eval,IntKind.signed];done)|(simp [Act.eval,IntKind.signed];rfl)) ?_
          with_reducible refine (cW.calls _ _ (l0.drop (nH:Int).toNat) yG _ ?aG ?aH A6.out).mono ?_
          (case aG=>exact Kd.aU I9.out (bz HB))
          (case aH=>exact QZ.out)
          rintro e w' ⟨rfl,⟨nd,rfl⟩⟩;refine ⟨_,rfl, ?_⟩;refine hK.out _ _ trivial (fun hHeld=> ?_);clear hK K;refine nz 18 ?_;refine oz 8 (some 23) az (fun K hK=> ?_);refine kF Try.func87 (by kernel_rfl) rfl #[.slice A38 (l0.drop ((yt):Int).toNat).length (c0 - (yt).toNat)] (by rfl) rfl rfl (by (try simp only [List.map_toArray,List.map_cons,List.map_nil]);first|done|(rw [show (l0.drop ((yt):Int).toNat).length=(l0.length - (yt).toNat) from List.length_drop]<;>rfl)|(simp only [zi];rfl)|rfl|(simp only [List.length_drop,List.length_take];rfl)|(go_simp;done)|(simp [Act.eval,IntKind.signed];done)|(simp [Act.eval,IntKind.signed];rfl)) ?_
          with_reducible refine (cW.calls _ _ (l0.drop ((yt):Int).toNat) yh _ ?aG ?aH KL.out).mono ?_
          (case aG=>exact Kd.aU Ja.out (bz HB))
          (case aH=>exact Q9.out)
          rintro e w' ⟨rfl,⟨nd,rfl⟩⟩;refine ⟨_,rfl, ?_⟩;refine hK.out _ _ trivial (fun hHeld=> ?_);clear hK K;refine nz 23 ?_;refine pz 9 6 az ?_;refine pz 10 7 az ?_;refine dz az ?_;have Lk:0<=(9:Int):=(by omega)
          have Ll:9<(l0.length:Int):=gD;obtain ⟨EV,AaK,pY⟩:=Kd.dB gh.out 9 Lk Ll
          cases AaK
          (try simp only [show (9:Int).toNat=9 from rfl,Nat.reduceMul,Nat.reduceEqDiff,Go.Addr.add,↓reduceIte] at pY)
          have AeV:(9<l0.length)=True:=eq_true (by omega)
          (try rw [show ((9:Int)).toNat=9 from rfl] at pY)
          replace pY:=(HB.out.cell (dA w _ pY)).trans pY;replace Lk:=eq_true Lk;replace Ll:=eq_true Ll
          try go_wp2
          (try (rw [fg TZ];generalize j5:World.drewN TZ _=TZ;have aJ:aa (Below w.heap.size w TZ):=⟨by rw [<- j5];exact bz HB⟩;clear HB j5;have HB:=aJ;clear aJ))
          have aJ:=aa.mk (bf HB.out);clear HB;have HB:=aJ;clear aJ;obtain ⟨Att,Xf,_,Xg,_⟩:=info_parts gB;obtain ⟨qA,AmN,Ae3,Ae4⟩:=fR (P:=Try.prog) (Value.int .u8) 0 23 5 .i64 Try.underlying23 Xf Xg (some EV) c0 l0 12 (by omega) gD jC.out;have Xh:=aa.mk (Kd.dD (h1:=fun _=>rfl) (Ae3 _ (Kd.dc gh.out)));have Ae5:=aa.mk Ae4;clear Ae3 Ae4 Xf Xg;obtain ⟨Atu,Xi,_,Xj,_⟩:=info_parts gB;obtain ⟨A41,AmO,Ae6,Ae7⟩:=fR (P:=Try.prog) (Value.int .u8) 0 23 5 .i64 Try.underlying23 Xi Xj (some EV) c0 l0 16 (by omega) gD jC.out
          have Xk:=aa.mk (Kd.dD (h1:=fun _=>rfl) (Ae6 _ (Kd.dc gh.out)));have Ae8:=aa.mk Ae7;clear Ae6 Ae7 Xi Xj;refine dg (n:=13) (S:=fun w'=>True) (ds:=[]) #[false,false,false,false,false,false,false,false,false,false,false,false,false] (by kernel_rfl) rfl rfl trivial (fun hHeld=> ?_);refine bH cV.Ek cV.yq (fun az dW=> ?_);generalize TZ.drew=w39 at HB Xh Xk hHeld|-
          refine pz 0 34 az ?_;refine pz 1 35 az ?_;refine pz 3 37 az ?_;refine pz 5 39 az ?_;refine pz 6 40 az ?_;refine pz 8 42 az ?_;refine oz 2 (some 36) az (fun K hK=> ?_);refine kF Try.func124 (by kernel_rfl) rfl #[.slice qA (l0.drop 12).length (c0 - 12)] (by rfl) rfl rfl (by (try simp only [List.map_toArray,List.map_cons,List.map_nil]);first|done|(rw [show (l0.drop 12).length=(l0.length - 12) from List.length_drop]<;>rfl)|rfl|(simp only [List.length_drop,List.length_take];rfl)|(go_simp;done)|(simp [Act.eval,IntKind.signed];done)|(simp [Act.eval,IntKind.signed];rfl)) ?_
          with_reducible refine (dR.calls _ _ (l0.drop 12) yH _ ?aG ?aH A32.out).mono ?_
          (case aG=>exact Kd.aU Xh.out (bz HB))
          (case aH=>exact Ae5.out)
          rintro e w' ⟨rfl,⟨nd,rfl⟩⟩;refine ⟨_,rfl, ?_⟩;refine hK.out _ _ trivial (fun hHeld=> ?_);clear hK K;refine nz 36 ?_;refine pz 4 38 az ?_;refine oz 7 (some 41) az (fun K hK=> ?_);refine kF Try.func124 (by kernel_rfl) rfl #[.slice A41 (l0.drop 16).length (c0 - 16)] (by rfl) rfl rfl (by (try simp only [List.map_toArray,List.map_cons,List.map_nil]);first|done|(rw [show (l0.drop 16).length=(l0.length - 16) from List.length_drop]<;>rfl)|rfl|(simp only [List.length_drop,List.length_take];rfl)|(go_simp;done)|(simp [Act.eval,IntKind.signed];done)|(simp [Act.eval,IntKind.signed];rfl)) ?_
          with_reducible refine (dR.calls _ _ (l0.drop 16) yI _ ?aG ?aH A34.out).mono ?_
          (case aG=>exact Kd.aU Xk.out (bz HB))
          (case aH=>exact Ae8.out)
          rintro e w' ⟨rfl,⟨nd,rfl⟩⟩;refine ⟨_,rfl, ?_⟩;refine hK.out _ _ trivial (fun hHeld=> ?_);clear hK K;refine nz 41 ?_;refine pz 9 43 az ?_;refine oz 10 (some 44) az (fun K hK=> ?_)
          refine Kd.qw EG _ 65 ?hg (N:=44) ?hd (xs:=([(⟨yH,yG⟩:nj),(⟨yI,yh⟩:nj)]:List (nj))) (inner:=[.int .u32 yH,.int .u16 yG,.int .u32 yI,.int .u16 yh]) (ok:=fun _=>True) (rq:=fun _=>True) ?hr ?hp (fun _ hk=>hk) trivial (Below.refl _ _) (Nat.le_refl _) (by simp) ?_;(case hd=>rfl);(case hg=>rfl);(case hr=>first|(go_simp;done)|(go_simp;rfl));(case hp=>exact (cI.c2 (show Kd.M EG _ _ _ (⟨yH,yG⟩:nj) [.int .u32 yH,.int .u16 yG] from (xD _ _ _ (⟨yH,yG⟩:nj))) (cI.c2 (show Kd.M EG _ _ _ (⟨yI,yh⟩:nj) [.int .u32 yI,.int .u16 yh] from (xD _ _ _ (⟨yI,yh⟩:nj))) (cI.none _ _))));intro Atw Tc Re hb gJ iM;clear gJ iM
          (first|rw [<- Xe.out] at Re|(simp only [Int.reduceToNat] at Re;rw [<- Xe.out] at Re))
          have aJ:=aa.mk (Kd.bP Re (af (bz HB)));have aQ:=aa.mk (aq (bz HB) hb);clear HB;have Ae9:=aJ;have HB:=aQ;clear aJ aQ;clear hb Re;refine hK.out _ _ trivial (fun hHeld=> ?_);clear hK K;refine nz 44 ?_;refine pz 11 2 az ?_;refine pz 12 3 az ?_;refine dz az ?_
          try go_wp2
          go_ret2
          exact ⟨_,by first|rfl|(simp [aj,ak]<;>rfl)|(simp only [<- zi];first|rfl|(simp [aj,ak]<;>rfl))|(simp [*,aj,ak]<;>rfl),by (with_reducible repeat (first|apply Kd.eX|apply Kd.eT|apply Kd.eY));exact Ae9.out,bz HB⟩
         ·rw [ax c33] at H
          cases H
        ·rw [ax Qk] at H
         cases H
      ·rw [ax ru] at H
       cases H
     ·rw [ax c9] at H
      cases H
    ·rw [ax c8] at H
     cases H
   ·rw [ax c5] at H
    cases H
  ·rw [ax c4] at H
   cases H
 ·replace c3:=xP c3
  subst c3;have H1:(some (([]:List (nj)),false))=some (r1,r2):=by rw [ax (show ¬ (false=true) by decide)] at H;exact H
  clear H;have H:=H1;clear H1;simp only [Option.some.injEq,Prod.mk.injEq] at H
  obtain ⟨rfl,rfl⟩:=H
  go_enter Try.func104,Try.ntmps104
  go_wp2_with (first|((with_reducible refine ay (f:=86) rfl ?_);refine gL 10 Try.func86 #[.slice A0 l0.length c0] ?_;(with_reducible refine (cn.calls k _ _ l0 nH false _ ?aG ?aH A2.out).mono ?_);(case aG=>repeat (first|exact gh.out|(with_reducible refine Kd.fD ?_ _)|(with_reducible refine Kd.fj ?_ _)|(with_reducible refine Kd.gP ?_)));(case aH=>exact jC.out);rintro e MN ⟨rfl,hb⟩;refine ⟨_,rfl, ?_⟩;have aJ:=aa.mk (aq (bz HB) hb);clear HB;have HB:=aJ;clear aJ;(try clear hb);(try clear hb2);(try clear hk);(try clear hi)))
  go_ret2
  exact ⟨_,by first|rfl|(simp [aj,ak]<;>rfl)|(simp [*,aj,ak]<;>rfl),by first|exact Kd.cl _ _ _ _ _|exact Kd.ju _ _ _ _ _|exact Kd.jv _ _ _ _ _|exact Kd.jr _ _ _ _ _|exact Kd.js _ _ _ _ _,bz HB⟩
def qE.f (aV:Int) (bh:Int) (bp:Int) (bw:Int) (cA:List Int):Option (Bool):=(lF.f aV).bind fun Rf=>(some (Rf==3))
theorem qE.calls (aV:Int) (bh:Int) (bp:Int) (bw:Int) (fE:Option Addr) (fF:Nat) (cA:List Int) (r:Bool) (w:World) (jU:Kd.C (Kd.int .u8) w fE cA.length cA) (jV:cA.length<=fF) (h:qE.f aV bh bp bw cA=some r):
  Calls Try.prog 106 #[.agg #[.int .u8 aV,.int .u8 bh,.int .u16 bp,.int .u32 bw,.slice fE cA.length fF]] w fun e w'=>e= .returned (.bool r) /\ Below w.heap.size w w':=by
 have ny:=Try.underlying101;have oh:=aa.mk jU;have o7:=aa.mk jV;clear jU jV;have HB:=gj w;have H:((lF.f aV).bind fun Rf=>(some (Rf==3)))=some r:=h;clear h;replace H:=cZ H;obtain ⟨Rf,uJ,H⟩:=H
 (try dsimp -simprocs only at H)
 have A2:=aa.mk uJ;clear uJ;obtain rfl:=cS H
 go_enter Try.func106,Try.ntmps106
 go_wp2_with (first|((with_reducible refine ay (f:=125) rfl ?_);refine gL 5 Try.func125 #[.int .u8 aV] ?_;(with_reducible refine (lF.calls aV Rf _ A2.out).mono ?_);rintro e w' ⟨rfl,⟨nd,rfl⟩⟩;refine ⟨_,rfl, ?_⟩))
 go_ret
 exact ⟨by first|rfl|(simp [aj,ak]<;>rfl)|(simp [*,aj,ak]<;>rfl),bz HB⟩
def xI.f (k:Nat) (a0:Int) (a1:Int) (cT:Int) (cU:Int) (cY:Int) (fu:List Int):Option (Int):=(kM.f k a0 a1 cT cU 0 fu).bind fun zM=>(if zM.2=true then (if zM.1=65535 then (some zM.1) else (some (Go.bits .xor .u16 IntKind.u16.max zM.1))) else (some 0))
theorem xI.calls (k:Nat) (a0:Int) (a1:Int) (cT:Int) (cU:Int) (cY:Int) (iU:Option Addr) (iV:Nat) (fu:List Int) (r:Int) (w:World) (sZ:Kd.C (Kd.int .u8) w iU fu.length fu) (tg:fu.length<=iV) (h:xI.f k a0 a1 cT cU cY fu=some r):
  Calls Try.prog 107 #[.int .u32 a0,.int .u32 a1,.agg #[.int .u16 cT,.int .u16 cU,.int .u16 cY,.slice iU fu.length iV]] w fun e w'=>e= .returned (.int .u16 r) /\ Below w.heap.size w w':=by
 have wB:=Try.underlying83;have zj:IntKind.u16.signed=false:=rfl;have sJ:=aa.mk sZ;have sK:=aa.mk tg;clear sZ tg;have HB:=gj w;have H:((kM.f k a0 a1 cT cU 0 fu).bind fun zM=>(if zM.2=true then (if zM.1=65535 then (some zM.1) else (some (Go.bits .xor .u16 IntKind.u16.max zM.1))) else (some 0)))=some r:=h;clear h;replace H:=cZ H;obtain ⟨⟨C9,AmP⟩,qA,H⟩:=H
 (try dsimp -simprocs only at H)
 have A4:=aa.mk qA;clear qA
 by_cases c5:AmP=true
 ·subst c5
  have H1:(if C9=65535 then (some C9) else (some (Go.bits .xor .u16 IntKind.u16.max C9)))=some r:=by rw [au rfl] at H;exact H
  clear H;have H:=H1;clear H1
  by_cases c6:C9=65535
  ·rw [au c6] at H
   have sG:(C9==65535)=true:=fH c6;have Il:(C9 !=65535)=false:=kO c6;clear c6;obtain rfl:=cS H
   go_enter Try.func107,Try.ntmps107
   go_wp2_with (first|((with_reducible refine aA (N:=5) rfl ?_);refine aC ?hg (N:=5) ?hd (cs:= #[.int .u16 cT,.int .u16 cU,.int .u16 cY,.slice iU fu.length iV]) (t:=83) ?hr ?_;(case hd=>rfl);(case hg=>rfl);(case hr=>first|(go_simp;done)|(go_simp;rfl));intro nI hg w7 bK hb;have aJ:=aa.mk (aq (bz HB) hb);have aQ:=aa.mk (bK);have bt:=aa.mk ((by rw [hg];exact (af (bz HB)):w.heap.size<=nI));have cr:=aa.mk ((by rw [hg];exact (af (bz HB)):w.heap.size<=nI));clear HB;have HB:=aJ;have jW:=aQ;have Xl:=bt;have Xm:=cr;clear aJ aQ bt cr;clear hb bK hg;have Ga:w7.cell? ⟨nI,0,none⟩=some (.int .u16 cT):=cz jW.out 0 rfl;have Gb:w7.cell? ⟨nI,1,none⟩=some (.int .u16 cU):=cz jW.out 1 rfl;have Gc:w7.cell? ⟨nI,2,none⟩=some (.int .u16 cY):=cz jW.out 2 rfl;have Gd:w7.cell? ⟨nI,3,none⟩=some (.slice iU fu.length iV):=cz jW.out 3 rfl;have Ge:=ae jW.out 0;have Gf:=ae jW.out 1;have Gg:=ae jW.out 2;have Gh:=ae jW.out 3)|((with_reducible refine ay (f:=98) rfl ?_);refine gL 14 Try.func98 #[.int .u32 a0,.int .u32 a1,.agg #[.int .u16 cT,.int .u16 cU,.int .u16 0,.slice iU fu.length iV]] ?_;(with_reducible refine (kM.calls k a0 a1 cT cU 0 _ _ fu C9 true _ ?aG ?aH A4.out).mono ?_);(case aG=>exact Kd.aU sJ.out (bz HB));(case aH=>exact sK.out);rintro e w9 ⟨rfl,hb⟩;refine ⟨_,rfl, ?_⟩;have aJ:=aa.mk (bn (g:=nI) (o:= .cells #[.int .u16 cT,.int .u16 cU,.int .u16 0,.slice iU fu.length iV] 83 (0,0)) (by (with_reducible repeat (first|refine aN ?_ _|refine aK ?_|refine aM ?_ _));refine bM (cs:= #[.int .u16 cT,.int .u16 cU,.int .u16 cY,.slice iU fu.length iV]) ?_ 2 _ rfl;(with_reducible repeat (first|refine aN ?_ _|refine aK ?_|refine aM ?_ _));exact jW.out) hb);have aQ:=aa.mk (aq (bz HB) hb);clear jW;clear HB;have jW:=aJ;have HB:=aQ;clear aJ aQ;(try clear hb);(try clear hb2);(try clear hk);(try clear hi)))
   go_ret
   exact ⟨by first|rfl|(simp [aj,ak]<;>rfl)|(simp [*,aj,ak]<;>rfl),bz HB⟩
  ·rw [ax c6] at H
   have sG:(C9==65535)=false:=fc c6;have Il:(C9 !=65535)=true:=lA c6;obtain rfl:=cS H
   go_enter Try.func107,Try.ntmps107
   go_wp2_with (first|((with_reducible refine aA (N:=5) rfl ?_);refine aC ?hg (N:=5) ?hd (cs:= #[.int .u16 cT,.int .u16 cU,.int .u16 cY,.slice iU fu.length iV]) (t:=83) ?hr ?_;(case hd=>rfl);(case hg=>rfl);(case hr=>first|(go_simp;done)|(go_simp;rfl));intro nI hg j4 bK hb;have aJ:=aa.mk (aq (bz HB) hb);have aQ:=aa.mk (bK);have bt:=aa.mk ((by rw [hg];exact (af (bz HB)):w.heap.size<=nI));have cr:=aa.mk ((by rw [hg];exact (af (bz HB)):w.heap.size<=nI));clear HB;have HB:=aJ;have jW:=aQ;have Xl:=bt;have Xm:=cr;clear aJ aQ bt cr;clear hb bK hg;have vB:j4.cell? ⟨nI,0,none⟩=some (.int .u16 cT):=cz jW.out 0 rfl;have vC:j4.cell? ⟨nI,1,none⟩=some (.int .u16 cU):=cz jW.out 1 rfl;have vD:j4.cell? ⟨nI,2,none⟩=some (.int .u16 cY):=cz jW.out 2 rfl;have vE:j4.cell? ⟨nI,3,none⟩=some (.slice iU fu.length iV):=cz jW.out 3 rfl;have vF:=ae jW.out 0;have vG:=ae jW.out 1;have vH:=ae jW.out 2;have vI:=ae jW.out 3)|((with_reducible refine ay (f:=98) rfl ?_);refine gL 14 Try.func98 #[.int .u32 a0,.int .u32 a1,.agg #[.int .u16 cT,.int .u16 cU,.int .u16 0,.slice iU fu.length iV]] ?_;(with_reducible refine (kM.calls k a0 a1 cT cU 0 _ _ fu C9 true _ ?aG ?aH A4.out).mono ?_);(case aG=>exact Kd.aU sJ.out (bz HB));(case aH=>exact sK.out);rintro e l5 ⟨rfl,hb⟩;refine ⟨_,rfl, ?_⟩;have aJ:=aa.mk (bn (g:=nI) (o:= .cells #[.int .u16 cT,.int .u16 cU,.int .u16 0,.slice iU fu.length iV] 83 (0,0)) (by (with_reducible repeat (first|refine aN ?_ _|refine aK ?_|refine aM ?_ _));refine bM (cs:= #[.int .u16 cT,.int .u16 cU,.int .u16 cY,.slice iU fu.length iV]) ?_ 2 _ rfl;(with_reducible repeat (first|refine aN ?_ _|refine aK ?_|refine aM ?_ _));exact jW.out) hb);have aQ:=aa.mk (aq (bz HB) hb);clear jW;clear HB;have jW:=aJ;have HB:=aQ;clear aJ aQ;(try clear hb);(try clear hb2);(try clear hk);(try clear hi)))
   go_ret
   exact ⟨by first|rfl|(simp [aj,ak]<;>rfl)|(simp [*,aj,ak]<;>rfl),bz HB⟩
 ·replace c5:=xP c5
  subst c5;have H1:(some 0)=some r:=by rw [ax (show ¬ (false=true) by decide)] at H;exact H
  clear H;have H:=H1;clear H1;obtain rfl:=cS H
  go_enter Try.func107,Try.ntmps107
  go_wp2_with (first|((with_reducible refine aA (N:=5) rfl ?_);refine aC ?hg (N:=5) ?hd (cs:= #[.int .u16 cT,.int .u16 cU,.int .u16 cY,.slice iU fu.length iV]) (t:=83) ?hr ?_;(case hd=>rfl);(case hg=>rfl);(case hr=>first|(go_simp;done)|(go_simp;rfl));intro nI hg sR bK hb;have aJ:=aa.mk (aq (bz HB) hb);have aQ:=aa.mk (bK);have bt:=aa.mk ((by rw [hg];exact (af (bz HB)):w.heap.size<=nI));have cr:=aa.mk ((by rw [hg];exact (af (bz HB)):w.heap.size<=nI));clear HB;have HB:=aJ;have jW:=aQ;have Xl:=bt;have Xm:=cr;clear aJ aQ bt cr;clear hb bK hg;have TL:sR.cell? ⟨nI,0,none⟩=some (.int .u16 cT):=cz jW.out 0 rfl;have TM:sR.cell? ⟨nI,1,none⟩=some (.int .u16 cU):=cz jW.out 1 rfl;have TN:sR.cell? ⟨nI,2,none⟩=some (.int .u16 cY):=cz jW.out 2 rfl;have TP:sR.cell? ⟨nI,3,none⟩=some (.slice iU fu.length iV):=cz jW.out 3 rfl;have TQ:=ae jW.out 0;have TR:=ae jW.out 1;have TS:=ae jW.out 2;have TT:=ae jW.out 3)|((with_reducible refine ay (f:=98) rfl ?_);refine gL 14 Try.func98 #[.int .u32 a0,.int .u32 a1,.agg #[.int .u16 cT,.int .u16 cU,.int .u16 0,.slice iU fu.length iV]] ?_;(with_reducible refine (kM.calls k a0 a1 cT cU 0 _ _ fu C9 false _ ?aG ?aH A4.out).mono ?_);(case aG=>exact Kd.aU sJ.out (bz HB));(case aH=>exact sK.out);rintro e yE ⟨rfl,hb⟩;refine ⟨_,rfl, ?_⟩;have aJ:=aa.mk (bn (g:=nI) (o:= .cells #[.int .u16 cT,.int .u16 cU,.int .u16 0,.slice iU fu.length iV] 83 (0,0)) (by (with_reducible repeat (first|refine aN ?_ _|refine aK ?_|refine aM ?_ _));refine bM (cs:= #[.int .u16 cT,.int .u16 cU,.int .u16 cY,.slice iU fu.length iV]) ?_ 2 _ rfl;(with_reducible repeat (first|refine aN ?_ _|refine aK ?_|refine aM ?_ _));exact jW.out) hb);have aQ:=aa.mk (aq (bz HB) hb);clear jW;clear HB;have jW:=aJ;have HB:=aQ;clear aJ aQ;(try clear hb);(try clear hb2);(try clear hk);(try clear hi)))
  go_ret
  exact ⟨by first|rfl|(simp [aj,ak]<;>rfl)|(simp [*,aj,ak]<;>rfl),bz HB⟩
theorem ot (v b:Value) (w:World):(callMethod (.iface 179 v) "lych/rewrite.right" #[b]).run Try.prog w= .ok (.enter 156 #[v,b]) w:=by kernel_rfl
attribute [local go_sem] ot
theorem ou (v:Value) (w:World):(callMethod (.iface 179 v) "lych/rewrite.proto" #[]).run Try.prog w= .ok (.enter 155 #[v]) w:=by kernel_rfl
attribute [local go_sem] ou
theorem ow (v b:Value) (w:World):(callMethod (.iface 181 v) "lych/rewrite.right" #[b]).run Try.prog w= .ok (.enter 158 #[v,b]) w:=by kernel_rfl
attribute [local go_sem] ow
theorem ox (v:Value) (w:World):(callMethod (.iface 181 v) "lych/rewrite.proto" #[]).run Try.prog w= .ok (.enter 157 #[v]) w:=by kernel_rfl
attribute [local go_sem] ox
theorem oy (v b:Value) (w:World):(callMethod (.iface 183 v) "lych/rewrite.right" #[b]).run Try.prog w= .ok (.enter 161 #[v,b]) w:=by kernel_rfl
attribute [local go_sem] oy
theorem oA (v:Value) (w:World):(callMethod (.iface 183 v) "lych/rewrite.proto" #[]).run Try.prog w= .ok (.enter 160 #[v]) w:=by kernel_rfl
attribute [local go_sem] oA
theorem oC (v:Value) (w:World):(Instr.typeAssert (.iface 179 v) 130 179 false).run Try.prog w= .ok v w:=by kernel_rfl
attribute [local go_sem] oC
theorem oD (v:Value) (w:World):(Instr.typeAssert (.iface 181 v) 130 181 false).run Try.prog w= .ok v w:=by kernel_rfl
attribute [local go_sem] oD
theorem oE (v:Value) (w:World):(Instr.typeAssert (.iface 183 v) 130 183 false).run Try.prog w= .ok v w:=by kernel_rfl
attribute [local go_sem] oE
theorem oF (c0 c1 c2 c3:Value) (w:World):(Instr.field 179 (.agg #[c0,c1,c2,c3]) 0).run Try.prog w= .ok (.agg #[c0,c1,c2,c3]) w:=by kernel_rfl
attribute [local go_sem] oF
theorem oG (c0 c1 c2 c3 c4 c5 c6 c7 c8 c9:Value) (w:World):(Instr.field 181 (.agg #[c0,c1,c2,c3,c4,c5,c6,c7,c8,c9]) 0).run Try.prog w= .ok (.agg #[c0,c1,c2,c3,c4,c5,c6,c7,c8,c9]) w:=by kernel_rfl
attribute [local go_sem] oG
theorem oH (c0 c1 c2 c3 c4:Value) (w:World):(Instr.field 183 (.agg #[c0,c1,c2,c3,c4]) 0).run Try.prog w= .ok (.agg #[c0,c1,c2,c3,c4]) w:=by kernel_rfl
attribute [local go_sem] oH
theorem ig {P:Program} {fn:Func} {p u p2 u2:Tmp} {ty MO:TypeId} (h:fn.results= #[.cell p ty,.tmp u,.cell p2 MO,.tmp u2]) (tmps:Array Value) (w:World) (g g2:Nat) (t t2:TypeId) (cs Ky:Array Value) (fr Xn:Nat×Nat) (d d2:TypeDesc)
  (hp:tmps.getD p undef= .pointer (some ⟨g,0,none⟩)) (hg:w.heap[g]?=some (.cells cs t fr)) (hu:P.underlying ty=some d) (hd:(match d with| .struct _| .array _ _=>true|_=>false)=true) (hi:(P.info? ty).map (·.size)=some cs.size)
  (Rg:tmps.getD p2 undef= .pointer (some ⟨g2,0,none⟩)) (hg2:w.heap[g2]?=some (.cells Ky t2 Xn)) (hu2:P.underlying MO=some d2) (hd2:(match d2 with| .struct _| .array _ _=>true|_=>false)=true) (hi2:(P.info? MO).map (·.size)=some Ky.size):
  (results fn tmps).run P w= .ok (.tuple #[.agg cs,tmps.getD u undef,.agg Ky,tmps.getD u2 undef]) w:=by
 have h1:tmps[p]?.getD undef= .pointer (some ⟨g,0,none⟩):=by simpa using hp
 have h2:tmps[p2]?.getD undef= .pointer (some ⟨g2,0,none⟩):=by simpa using Rg
 simp [results,h,h1,h2,asAddr,run_loadVar_row w g t ty cs fr d hg hu hd hi,run_loadVar_row w g2 t2 MO Ky Xn d2 hg2 hu2 hd2 hi2]
theorem iz {P:Program} {fn:Func} {p p2 u2:Tmp} {ty MO:TypeId} (h:fn.results= #[.cell p ty,.cell p2 MO,.tmp u2]) (tmps:Array Value) (w:World) (g g2:Nat) (t t2:TypeId) (cs Ky:Array Value) (fr Xn:Nat×Nat) (d d2:TypeDesc)
  (hp:tmps.getD p undef= .pointer (some ⟨g,0,none⟩)) (hg:w.heap[g]?=some (.cells cs t fr)) (hu:P.underlying ty=some d) (hd:(match d with| .struct _| .array _ _=>true|_=>false)=true) (hi:(P.info? ty).map (·.size)=some cs.size)
  (Rg:tmps.getD p2 undef= .pointer (some ⟨g2,0,none⟩)) (hg2:w.heap[g2]?=some (.cells Ky t2 Xn)) (hu2:P.underlying MO=some d2) (hd2:(match d2 with| .struct _| .array _ _=>true|_=>false)=true) (hi2:(P.info? MO).map (·.size)=some Ky.size):
  (results fn tmps).run P w= .ok (.tuple #[.agg cs,.agg Ky,tmps.getD u2 undef]) w:=by
 have h1:tmps[p]?.getD undef= .pointer (some ⟨g,0,none⟩):=by simpa using hp
 have h2:tmps[p2]?.getD undef= .pointer (some ⟨g2,0,none⟩):=by simpa using Rg
 simp [results,h,h1,h2,asAddr,run_loadVar_row w g t ty cs fr d hg hu hd hi,run_loadVar_row w g2 t2 MO Ky Xn d2 hg2 hu2 hd2 hi2]
inductive RB where
 |no
 |udp (us ud uc:Int) (ub:List Int)
 |tcp (ts td tq ta tf tw tc tu:Int) (nf tb:List Int)
 |wC (mt mc ms mr:Int) (mb:List Int)
structure LK where
 (a t pr i fl dM s d:Int) (o b:List Int) (x:RB) (sp dp ff:Int) (wz:List nj) (e:Int)
def LK.err (e:Int):LK:=⟨0,0,0,0,0,0,0,0,[],[],.no,0,0,0,[],e⟩
def RB.V (w:World) (base:Nat) (v:Value):RB ->Prop
 | .no=>v= .nilIface
 | .udp us ud uc ub=>∃ v3:Value,v= .iface 179 (.agg #[.int .u16 us,.int .u16 ud,.int .u16 uc,v3]) /\ Kd.R (Kd.int .u8) 5 w base (fun _=>True) v3 ub
 | .tcp ts td tq ta tf tw tc tu nf tb=>∃ v8 v9:Value,v= .iface 181 (.agg #[.int .u16 ts,.int .u16 td,.int .u32 tq,.int .u32 ta,.int .u8 tf,.int .u16 tw,.int .u16 tc,.int .u16 tu,v8,v9]) /\ Kd.R (Kd.int .u8) 5 w base (fun _=>True) v8 nf /\ Kd.R (Kd.int .u8) 5 w base (fun _=>True) v9 tb
 | .wC mt mc ms mr mb=>∃ v4:Value,v= .iface 183 (.agg #[.int .u8 mt,.int .u8 mc,.int .u16 ms,.int .u32 mr,v4]) /\ Kd.R (Kd.int .u8) 5 w base (fun _=>True) v4 mb
def vJ (k:Nat) (a t i fl dM s d:Int) (o b:List Int):Option LK:=
 (jj.f b).bind fun ⟨us,ud,uc,ub,e⟩=>if e=0 then (o8.f k s d us ud uc ub).bind fun r=>if r=true then some ⟨a,t,17,i,fl,dM,s,d,o,b,.udp us ud uc ub,us,ud,0,[],0⟩ else some (LK.err 22) else some (LK.err e)
def vK (k:Nat) (a t i fl dM s d:Int) (o b:List Int):Option LK:=
 (nW.f b).bind fun ⟨ts,td,tq,ta,tf,tw,tc,tu,nf,tb,e⟩=>if e=0 then (pE.f k s d ts td tq ta tf tw tc tu nf tb).bind fun r=>if r=true then some ⟨a,t,6,i,fl,dM,s,d,o,b,.tcp ts td tq ta tf tw tc tu nf tb,ts,td,tf,[],0⟩ else some (LK.err 22) else some (LK.err e)
def pZ (k:Nat) (a t i fl dM s d:Int) (o b:List Int):Option LK:=
 (iE.f b).bind fun ⟨mt,mc,ms,mr,mb,e⟩=>if e=0 then (nG.f k mt mc ms mr mb).bind fun r=>if r=true then
  (cV.f k mb).bind fun ⟨l,ok⟩=>(kL.f mt mc ms mr mb).bind fun ec=>if ec=true then some ⟨a,t,1,i,fl,dM,s,d,o,b,.wC mt mc ms mr mb,mr / 65536 % 65536,mr / 65536 % 65536,0,[],0⟩
  else (qE.f mt mc ms mr mb).bind fun er=>if er=true then (if ok=true then some ⟨a,t,1,i,fl,dM,s,d,o,b,.wC mt mc ms mr mb,0,0,0,l,0⟩ else some (LK.err 21)) else some (LK.err 21)
  else some (LK.err 22) else some (LK.err e)
def jN.f (k:Nat) (l:List Int):Option LK:=
 (cX.f k l).bind fun ⟨a,t,pr,i,fl,dM,s,d,o,b,e⟩=>if e=0 then
  if pr=17 then vJ k a t i fl dM s d o b else if pr=6 then vK k a t i fl dM s d o b else if pr=1 then pZ k a t i fl dM s d o b else some (LK.err 21)
 else some (LK.err e)
def LK.Post (r:LK) (base:Nat) (w0:World) (e:Ending) (w':World):Prop:=
 ∃ v8 v9 vx vi:Value,e= .returned (.tuple #[.agg #[.int .u8 r.a,.int .u8 r.t,.int .u8 r.pr,.int .u16 r.i,.int .u8 r.fl,.int .u16 r.dM,.int .u32 r.s,.int .u32 r.d,v8,v9],vx,.agg #[.int .u8 r.pr,.int .u32 r.s,.int .u16 r.sp,.int .u32 r.d,.int .u16 r.dp,.int .u8 r.ff,vi],.int .i64 r.e]) /\ Kd.R (Kd.int .u8) 5 w' base (fun _=>True) v8 r.o /\ Kd.R (Kd.int .u8) 5 w' base (fun _=>True) v9 r.b /\ r.x.V w' base vx /\ Kd.R EG 65 w' base (fun _=>True) vi r.wz /\ Below base w0 w'
def look.R9.T:Bool×List (List Nat×List Nat):=(true,[([],[]),([],[]),([0,0],[0]),([2,0,2],[]),([1,3,0,1,2,3],[1]),([4,0,1,2,3,4],[])])
theorem look.R9.tab:gS .any (opsOf Try.f69 9)=look.R9.T:=by kernel_rfl
theorem look.R9.bits:dN look.R9.T.2 [0,0,1,5,15,31]=true:=by kernel_rfl
def look.R21.T:Bool×List (List Nat×List Nat):=(true,[([],[]),([0],[0]),([1],[1]),([],[]),([3],[3]),([4],[4]),([0,1,2],[]),([6,0,1,2],[6]),([7,2,0,1,2],[2,7]),([0,1,2,3,4,5,6,7,8],[]),([9,0,1,2,3,4,5,6,7,8],[9]),([10,5,8,0,1,2,3,4,5,6,7,8],[5,10])])
theorem look.R21.tab:gS .any (opsOf Try.f69 21)=look.R21.T:=by kernel_rfl
theorem look.R21.bits:dN look.R21.T.2 [0,1,3,0,8,24,7,71,199,511,1023,2047]=true:=by kernel_rfl
def look.Pc.T:Bool×List (List Nat×List Nat):=(true,[([],[]),([],[]),([],[]),([0,0],[0]),([1,3,0,1,3],[1]),([2,4,0,1,2,3,4],[2]),([5,0,1,2,3,4,5],[])])
theorem look.Pc.tab:gS .any (opsOf Try.f69 25)=look.Pc.T:=by kernel_rfl
theorem look.Pc.bits:dN look.Pc.T.2 [0,0,0,1,11,31,63]=true:=by kernel_rfl
def look.R7.T:Bool×List (List Nat×List Nat):=(true,[([],[]),([],[]),([],[]),([0,0],[0]),([3,0,3],[]),([1,4,0,1,3,4],[1]),([2,5,0,1,2,3,4,5],[2])])
theorem look.R7.tab:gS .any (opsOf Try.f69 7)=look.R7.T:=by kernel_rfl
theorem look.R7.bits:dN look.R7.T.2 [0,0,0,1,9,27,63]=true:=by kernel_rfl
def look.R24.T:Bool×List (List Nat×List Nat):=(true,[([],[]),([0],[0]),([1],[1]),([],[]),([3],[3]),([4],[4]),([],[]),([6],[6]),([7],[7]),([0,1,2],[]),([9,0,1,2],[9]),([10,2,0,1,2],[2,10]),([0,1,2,3,4,5,9,10,11],[]),([12,0,1,2,3,4,5,9,10,11],[12]),([13,5,11,0,1,2,3,4,5,9,10,11],[5,13]),([0,1,2,3,4,5,6,7,8,9,10,11,12,13,14],[]),([15,8,14,0,1,2,3,4,5,6,7,8,9,10,11,12,13,14],[8,15])])
theorem look.R24.tab:gS .any (opsOf Try.f69 24)=look.R24.T:=by kernel_rfl
theorem look.R24.bits:dN look.R24.T.2 [0,1,3,0,8,24,0,64,192,7,519,1543,3647,7743,15935,32767,65535]=true:=by kernel_rfl
def look.Cc.T:Bool×List (List Nat×List Nat):=(true,[([],[]),([0],[0]),([1],[1]),([2],[2]),([],[]),([4],[4]),([5],[5]),([6],[6]),([0,1,2,3],[]),([8,0,1,2,3],[8]),([9,3,0,1,2,3],[3,9]),([0,1,2,3,4,5,6,7,8,9,10],[]),([11,0,1,2,3,4,5,6,7,8,9,10],[11]),([12,7,10,0,1,2,3,4,5,6,7,8,9,10],[7,12])])
theorem look.Cc.tab:gS .any (opsOf Try.f69 16)=look.Cc.T:=by kernel_rfl
theorem look.Cc.bits:dN look.Cc.T.2 [0,1,3,7,0,16,48,112,15,271,783,2047,4095,8191]=true:=by kernel_rfl
def look.Xo.T:Bool×List (List Nat×List Nat):=(true,[([],[]),([],[]),([0,0],[0]),([2,0,2],[]),([1,3,0,1,2,3],[1]),([4,0,1,2,3,4],[])])
theorem look.Xo.tab:gS .any (opsOf Try.f69 18)=look.Xo.T:=by kernel_rfl
theorem look.Xo.bits:dN look.Xo.T.2 [0,0,1,5,15,31]=true:=by kernel_rfl
def look.R4.T:Bool×List (List Nat×List Nat):=(true,[([],[]),([],[]),([],[]),([0,0],[0]),([3,0,3],[]),([1,4,0,1,3,4],[1]),([2,5,0,1,2,3,4,5],[2])])
theorem look.R4.tab:gS .any (opsOf Try.f69 4)=look.R4.T:=by kernel_rfl
theorem look.R4.bits:dN look.R4.T.2 [0,0,0,1,9,27,63]=true:=by kernel_rfl
attribute [local go_sem] dF dG eG eH cQ cR dH dI
def xJ.f (k:Nat) (a0:Int) (a1:Int) (cT:Int) (cU:Int) (cY:Int) (ik:Int) (iq:Int) (iu:Int) (jo:Int) (iv:Int) (gz:List Int) (gA:List Int):Option (Int):=(lG.f k a0 a1 cT cU cY ik iq iu 0 iv gz gA).bind fun Jb=>(if Jb.2=true then (some (Go.bits .xor .u16 IntKind.u16.max Jb.1)) else (some 0))
theorem xJ.calls (k:Nat) (a0:Int) (a1:Int) (cT:Int) (cU:Int) (cY:Int) (ik:Int) (iq:Int) (iu:Int) (jo:Int) (iv:Int) (kA:Option Addr) (kB:Nat) (gz:List Int) (kC:Option Addr) (kD:Nat) (gA:List Int) (r:Int) (w:World) (tB:Kd.C (Kd.int .u8) w kA gz.length gz) (tC:gz.length<=kB) (tD:Kd.C (Kd.int .u8) w kC gA.length gA) (tE:gA.length<=kD) (h:xJ.f k a0 a1 cT cU cY ik iq iu jo iv gz gA=some r):
  Calls Try.prog 109 #[.int .u32 a0,.int .u32 a1,.agg #[.int .u16 cT,.int .u16 cU,.int .u32 cY,.int .u32 ik,.int .u8 iq,.int .u16 iu,.int .u16 jo,.int .u16 iv,.slice kA gz.length kB,.slice kC gA.length kD]] w fun e w'=>e= .returned (.int .u16 r) /\ Below w.heap.size w w':=by
 have qU:=Try.underlying137;have zj:IntKind.u16.signed=false:=rfl;have uB:=aa.mk tB;have uC:=aa.mk tC;clear tB tC;have uD:=aa.mk tD;have uE:=aa.mk tE;clear tD tE;have HB:=gj w;have H:((lG.f k a0 a1 cT cU cY ik iq iu 0 iv gz gA).bind fun Jb=>(if Jb.2=true then (some (Go.bits .xor .u16 IntKind.u16.max Jb.1)) else (some 0)))=some r:=h;clear h;replace H:=cZ H;obtain ⟨⟨AaL,AmQ⟩,qA,H⟩:=H
 (try dsimp -simprocs only at H)
 have A4:=aa.mk qA;clear qA
 by_cases c5:AmQ=true
 ·subst c5
  have H1:(some (Go.bits .xor .u16 IntKind.u16.max AaL))=some r:=by rw [au rfl] at H;exact H
  clear H;have H:=H1;clear H1;obtain rfl:=cS H
  go_enter Try.func109,Try.ntmps109
  go_wp2_with (first|((with_reducible refine aA (N:=5) rfl ?_);refine aC ?hg (N:=5) ?hd (cs:= #[.int .u16 cT,.int .u16 cU,.int .u32 cY,.int .u32 ik,.int .u8 iq,.int .u16 iu,.int .u16 jo,.int .u16 iv,.slice kA gz.length kB,.slice kC gA.length kD]) (t:=137) ?hr ?_;(case hd=>rfl);(case hg=>rfl);(case hr=>first|(go_simp;done)|(go_simp;rfl));intro my hg w6 bK hb;have aJ:=aa.mk (aq (bz HB) hb);have aQ:=aa.mk (bK);have bt:=aa.mk ((by rw [hg];exact (af (bz HB)):w.heap.size<=my));have cr:=aa.mk ((by rw [hg];exact (af (bz HB)):w.heap.size<=my));clear HB;have HB:=aJ;have iA:=aQ;have Afe:=bt;have Aff:=cr;clear aJ aQ bt cr;clear hb bK hg;have tW:w6.cell? ⟨my,0,none⟩=some (.int .u16 cT):=cz iA.out 0 rfl;have tX:w6.cell? ⟨my,1,none⟩=some (.int .u16 cU):=cz iA.out 1 rfl;have tY:w6.cell? ⟨my,2,none⟩=some (.int .u32 cY):=cz iA.out 2 rfl;have tZ:w6.cell? ⟨my,3,none⟩=some (.int .u32 ik):=cz iA.out 3 rfl;have uX:w6.cell? ⟨my,4,none⟩=some (.int .u8 iq):=cz iA.out 4 rfl;have KQ:w6.cell? ⟨my,5,none⟩=some (.int .u16 iu):=cz iA.out 5 rfl;have KR:w6.cell? ⟨my,6,none⟩=some (.int .u16 jo):=cz iA.out 6 rfl;have KS:w6.cell? ⟨my,7,none⟩=some (.int .u16 iv):=cz iA.out 7 rfl;have KT:w6.cell? ⟨my,8,none⟩=some (.slice kA gz.length kB):=cz iA.out 8 rfl;have KU:w6.cell? ⟨my,9,none⟩=some (.slice kC gA.length kD):=cz iA.out 9 rfl;have ua:=ae iA.out 0;have uf:=ae iA.out 1;have ug:=ae iA.out 2;have uh:=ae iA.out 3;have uY:=ae iA.out 4;have KV:=ae iA.out 5;have KW:=ae iA.out 6;have KX:=ae iA.out 7;have KY:=ae iA.out 8;have KZ:=ae iA.out 9)|((with_reducible refine ay (f:=126) rfl ?_);refine gL 14 Try.func126 #[.int .u32 a0,.int .u32 a1,.agg #[.int .u16 cT,.int .u16 cU,.int .u32 cY,.int .u32 ik,.int .u8 iq,.int .u16 iu,.int .u16 0,.int .u16 iv,.slice kA gz.length kB,.slice kC gA.length kD]] ?_;(with_reducible refine (lG.calls k a0 a1 cT cU cY ik iq iu 0 iv _ _ gz _ _ gA AaL true _ ?aG ?aH ?qW ?qX A4.out).mono ?_);(case aG=>exact Kd.aU uB.out (bz HB));(case aH=>exact uC.out);(case qW=>exact Kd.aU uD.out (bz HB));(case qX=>exact uE.out);rintro e w8 ⟨rfl,hb⟩;refine ⟨_,rfl, ?_⟩;have aJ:=aa.mk (bn (g:=my) (o:= .cells #[.int .u16 cT,.int .u16 cU,.int .u32 cY,.int .u32 ik,.int .u8 iq,.int .u16 iu,.int .u16 0,.int .u16 iv,.slice kA gz.length kB,.slice kC gA.length kD] 137 (0,0)) (by (with_reducible repeat (first|refine aN ?_ _|refine aK ?_|refine aM ?_ _));refine bM (cs:= #[.int .u16 cT,.int .u16 cU,.int .u32 cY,.int .u32 ik,.int .u8 iq,.int .u16 iu,.int .u16 jo,.int .u16 iv,.slice kA gz.length kB,.slice kC gA.length kD]) ?_ 6 _ rfl;(with_reducible repeat (first|refine aN ?_ _|refine aK ?_|refine aM ?_ _));exact iA.out) hb);have aQ:=aa.mk (aq (bz HB) hb);clear iA;clear HB;have iA:=aJ;have HB:=aQ;clear aJ aQ;(try clear hb);(try clear hb2);(try clear hk);(try clear hi)))
  go_ret
  exact ⟨by first|rfl|(simp [aj,ak]<;>rfl)|(simp [*,aj,ak]<;>rfl),bz HB⟩
 ·replace c5:=xP c5
  subst c5;have H1:(some 0)=some r:=by rw [ax (show ¬ (false=true) by decide)] at H;exact H
  clear H;have H:=H1;clear H1;obtain rfl:=cS H
  go_enter Try.func109,Try.ntmps109
  go_wp2_with (first|((with_reducible refine aA (N:=5) rfl ?_);refine aC ?hg (N:=5) ?hd (cs:= #[.int .u16 cT,.int .u16 cU,.int .u32 cY,.int .u32 ik,.int .u8 iq,.int .u16 iu,.int .u16 jo,.int .u16 iv,.slice kA gz.length kB,.slice kC gA.length kD]) (t:=137) ?hr ?_;(case hd=>rfl);(case hg=>rfl);(case hr=>first|(go_simp;done)|(go_simp;rfl));intro my hg w9 bK hb;have aJ:=aa.mk (aq (bz HB) hb);have aQ:=aa.mk (bK);have bt:=aa.mk ((by rw [hg];exact (af (bz HB)):w.heap.size<=my));have cr:=aa.mk ((by rw [hg];exact (af (bz HB)):w.heap.size<=my));clear HB;have HB:=aJ;have iA:=aQ;have Afe:=bt;have Aff:=cr;clear aJ aQ bt cr;clear hb bK hg;have rT:w9.cell? ⟨my,0,none⟩=some (.int .u16 cT):=cz iA.out 0 rfl;have rU:w9.cell? ⟨my,1,none⟩=some (.int .u16 cU):=cz iA.out 1 rfl;have rV:w9.cell? ⟨my,2,none⟩=some (.int .u32 cY):=cz iA.out 2 rfl;have rW:w9.cell? ⟨my,3,none⟩=some (.int .u32 ik):=cz iA.out 3 rfl;have xF:w9.cell? ⟨my,4,none⟩=some (.int .u8 iq):=cz iA.out 4 rfl;have zz:w9.cell? ⟨my,5,none⟩=some (.int .u16 iu):=cz iA.out 5 rfl;have zA:w9.cell? ⟨my,6,none⟩=some (.int .u16 jo):=cz iA.out 6 rfl;have zB:w9.cell? ⟨my,7,none⟩=some (.int .u16 iv):=cz iA.out 7 rfl;have zC:w9.cell? ⟨my,8,none⟩=some (.slice kA gz.length kB):=cz iA.out 8 rfl;have zD:w9.cell? ⟨my,9,none⟩=some (.slice kC gA.length kD):=cz iA.out 9 rfl;have rX:=ae iA.out 0;have rY:=ae iA.out 1;have rZ:=ae iA.out 2;have sg:=ae iA.out 3;have xG:=ae iA.out 4;have zE:=ae iA.out 5;have zF:=ae iA.out 6;have zG:=ae iA.out 7;have zH:=ae iA.out 8;have zI:=ae iA.out 9)|((with_reducible refine ay (f:=126) rfl ?_);refine gL 14 Try.func126 #[.int .u32 a0,.int .u32 a1,.agg #[.int .u16 cT,.int .u16 cU,.int .u32 cY,.int .u32 ik,.int .u8 iq,.int .u16 iu,.int .u16 0,.int .u16 iv,.slice kA gz.length kB,.slice kC gA.length kD]] ?_;(with_reducible refine (lG.calls k a0 a1 cT cU cY ik iq iu 0 iv _ _ gz _ _ gA AaL false _ ?aG ?aH ?qW ?qX A4.out).mono ?_);(case aG=>exact Kd.aU uB.out (bz HB));(case aH=>exact uC.out);(case qW=>exact Kd.aU uD.out (bz HB));(case qX=>exact uE.out);rintro e qf ⟨rfl,hb⟩;refine ⟨_,rfl, ?_⟩;have aJ:=aa.mk (bn (g:=my) (o:= .cells #[.int .u16 cT,.int .u16 cU,.int .u32 cY,.int .u32 ik,.int .u8 iq,.int .u16 iu,.int .u16 0,.int .u16 iv,.slice kA gz.length kB,.slice kC gA.length kD] 137 (0,0)) (by (with_reducible repeat (first|refine aN ?_ _|refine aK ?_|refine aM ?_ _));refine bM (cs:= #[.int .u16 cT,.int .u16 cU,.int .u32 cY,.int .u32 ik,.int .u8 iq,.int .u16 iu,.int .u16 jo,.int .u16 iv,.slice kA gz.length kB,.slice kC gA.length kD]) ?_ 6 _ rfl;(with_reducible repeat (first|refine aN ?_ _|refine aK ?_|refine aM ?_ _));exact iA.out) hb);have aQ:=aa.mk (aq (bz HB) hb);clear iA;clear HB;have iA:=aJ;have HB:=aQ;clear aJ aQ;(try clear hb);(try clear hb2);(try clear hk);(try clear hi)))
  go_ret
  exact ⟨by first|rfl|(simp [aj,ak]<;>rfl)|(simp [*,aj,ak]<;>rfl),bz HB⟩
def qY.f (k:Nat) (aV:Int) (bh:Int) (bp:Int) (bw:Int) (cA:List Int):Option (Int):=(iF.f aV bh 0 bw cA).bind fun Jc=>(if Jc.2=0 then ((oq.f k Jc.1).bind fun Rh=>(some Rh)) else (some 0))
theorem qY.calls (k:Nat) (aV:Int) (bh:Int) (bp:Int) (bw:Int) (fE:Option Addr) (fF:Nat) (cA:List Int) (r:Int) (w:World) (jU:Kd.C (Kd.int .u8) w fE cA.length cA) (jV:cA.length<=fF) (h:qY.f k aV bh bp bw cA=some r):
  Calls Try.prog 111 #[.agg #[.int .u8 aV,.int .u8 bh,.int .u16 bp,.int .u32 bw,.slice fE cA.length fF]] w fun e w'=>e= .returned (.int .u16 r) /\ Below w.heap.size w w':=by
 have ny:=Try.underlying101;have oh:=aa.mk jU;have o7:=aa.mk jV;clear jU jV;have HB:=gj w;have H:((iF.f aV bh 0 bw cA).bind fun Jc=>(if Jc.2=0 then ((oq.f k Jc.1).bind fun Rh=>(some Rh)) else (some 0)))=some r:=h;clear h;replace H:=cZ H;obtain ⟨⟨Ux,Lm⟩,uJ,H⟩:=H
 (try dsimp -simprocs only at H)
 have A2:=aa.mk uJ;clear uJ
 by_cases c3:Lm=0
 ·rw [au c3] at H
  have oY:(Lm==0)=true:=fH c3;have qP:(Lm !=0)=false:=kO c3;clear c3;replace H:=cZ H;obtain ⟨Rh,qA,H⟩:=H
  (try dsimp -simprocs only at H)
  have A4:=aa.mk qA;clear qA;obtain rfl:=cS H
  go_enter Try.func111,Try.ntmps111
  go_wp2_with (first|((with_reducible refine aA (N:=1) rfl ?_);refine aC ?hg (N:=1) ?hd (cs:= #[.int .u8 aV,.int .u8 bh,.int .u16 bp,.int .u32 bw,.slice fE cA.length fF]) (t:=101) ?hr ?_;(case hd=>rfl);(case hg=>rfl);(case hr=>first|(go_simp;done)|(go_simp;rfl));intro qZ hg w5 bK hb;have aJ:=aa.mk (aq (bz HB) hb);have aQ:=aa.mk (bK);have bt:=aa.mk ((by rw [hg];exact (af (bz HB)):w.heap.size<=qZ));have cr:=aa.mk ((by rw [hg];exact (af (bz HB)):w.heap.size<=qZ));clear HB;have HB:=aJ;have lg:=aQ;have Afg:=bt;have Afh:=cr;clear aJ aQ bt cr;clear hb bK hg;have FR:w5.cell? ⟨qZ,0,none⟩=some (.int .u8 aV):=cz lg.out 0 rfl;have FT:w5.cell? ⟨qZ,1,none⟩=some (.int .u8 bh):=cz lg.out 1 rfl;have FU:w5.cell? ⟨qZ,2,none⟩=some (.int .u16 bp):=cz lg.out 2 rfl;have FV:w5.cell? ⟨qZ,3,none⟩=some (.int .u32 bw):=cz lg.out 3 rfl;have QO:w5.cell? ⟨qZ,4,none⟩=some (.slice fE cA.length fF):=cz lg.out 4 rfl;have FW:=ae lg.out 0;have FX:=ae lg.out 1;have FY:=ae lg.out 2;have FZ:=ae lg.out 3;have QS:=ae lg.out 4)|((with_reducible refine ay (f:=112) rfl ?_);refine gL 8 Try.func112 #[.agg #[.int .u8 aV,.int .u8 bh,.int .u16 0,.int .u32 bw,.slice fE cA.length fF]] ?_;(with_reducible refine (iF.calls aV bh 0 bw _ _ cA Ux Lm _ ?aG ?aH A2.out).mono ?_);(case aG=>exact Kd.aU oh.out (bz HB));(case aH=>exact o7.out);rintro e w7 ⟨AmR,rfl,gE,hb⟩;refine ⟨_,rfl, ?_⟩;have aJ:=aa.mk (Kd.bP gE (af (bz HB)));have aQ:=aa.mk (bn (g:=qZ) (o:= .cells #[.int .u8 aV,.int .u8 bh,.int .u16 0,.int .u32 bw,.slice fE cA.length fF] 101 (0,0)) (by (with_reducible repeat (first|refine aN ?_ _|refine aK ?_|refine aM ?_ _));refine bM (cs:= #[.int .u8 aV,.int .u8 bh,.int .u16 bp,.int .u32 bw,.slice fE cA.length fF]) ?_ 2 _ rfl;(with_reducible repeat (first|refine aN ?_ _|refine aK ?_|refine aM ?_ _));exact lg.out) hb);have bt:=aa.mk (aq (bz HB) hb);clear lg;clear HB;have Da:=aJ;have lg:=aQ;have HB:=bt;clear aJ aQ bt;(try clear hb);(try clear hb2);(try clear hk);(try clear hi);(try clear gE);obtain ⟨Ao8,co8,eo8⟩:=Kd.da Da.out;subst eo8)|((with_reducible refine ay (f:=90) rfl ?_);refine gL 14 Try.func90 #[.slice Ao8 Ux.length co8] ?_;(with_reducible refine (oq.calls k _ _ Ux Rh _ ?aG ?aH A4.out).mono ?_);(case aG=>repeat (first|exact (Kd.av Da.out).2.2|(with_reducible refine Kd.fD ?_ _)|(with_reducible refine Kd.fj ?_ _)|(with_reducible refine Kd.gP ?_)));(case aH=>exact (Kd.av Da.out).2.1);rintro e w9 ⟨rfl,hb⟩;refine ⟨_,rfl, ?_⟩;have aJ:=aa.mk (Kd.fU (Kd.rz Da) hb);have aQ:=aa.mk (bn (kz lg) hb);have bt:=aa.mk (aq (bz HB) hb);clear Da;clear lg;clear HB;have Da:=aJ;have lg:=aQ;have HB:=bt;clear aJ aQ bt;(try clear hb);(try clear hb2);(try clear hk);(try clear hi)))
  go_ret
  exact ⟨by first|rfl|(simp [aj,ak]<;>rfl)|(simp [*,aj,ak]<;>rfl),bz HB⟩
 ·rw [ax c3] at H
  have oY:(Lm==0)=false:=fc c3;have qP:(Lm !=0)=true:=lA c3;obtain rfl:=cS H
  go_enter Try.func111,Try.ntmps111
  go_wp2_with (first|((with_reducible refine aA (N:=1) rfl ?_);refine aC ?hg (N:=1) ?hd (cs:= #[.int .u8 aV,.int .u8 bh,.int .u16 bp,.int .u32 bw,.slice fE cA.length fF]) (t:=101) ?hr ?_;(case hd=>rfl);(case hg=>rfl);(case hr=>first|(go_simp;done)|(go_simp;rfl));intro qZ hg j4 bK hb;have aJ:=aa.mk (aq (bz HB) hb);have aQ:=aa.mk (bK);have bt:=aa.mk ((by rw [hg];exact (af (bz HB)):w.heap.size<=qZ));have cr:=aa.mk ((by rw [hg];exact (af (bz HB)):w.heap.size<=qZ));clear HB;have HB:=aJ;have lg:=aQ;have Afg:=bt;have Afh:=cr;clear aJ aQ bt cr;clear hb bK hg;have vB:j4.cell? ⟨qZ,0,none⟩=some (.int .u8 aV):=cz lg.out 0 rfl;have vC:j4.cell? ⟨qZ,1,none⟩=some (.int .u8 bh):=cz lg.out 1 rfl;have vD:j4.cell? ⟨qZ,2,none⟩=some (.int .u16 bp):=cz lg.out 2 rfl;have vE:j4.cell? ⟨qZ,3,none⟩=some (.int .u32 bw):=cz lg.out 3 rfl;have Gn:j4.cell? ⟨qZ,4,none⟩=some (.slice fE cA.length fF):=cz lg.out 4 rfl;have vF:=ae lg.out 0;have vG:=ae lg.out 1;have vH:=ae lg.out 2;have vI:=ae lg.out 3;have Gp:=ae lg.out 4)|((with_reducible refine ay (f:=112) rfl ?_);refine gL 8 Try.func112 #[.agg #[.int .u8 aV,.int .u8 bh,.int .u16 0,.int .u32 bw,.slice fE cA.length fF]] ?_;(with_reducible refine (iF.calls aV bh 0 bw _ _ cA Ux Lm _ ?aG ?aH A2.out).mono ?_);(case aG=>exact Kd.aU oh.out (bz HB));(case aH=>exact o7.out);rintro e l5 ⟨AmR,rfl,gE,hb⟩;refine ⟨_,rfl, ?_⟩;have aJ:=aa.mk (Kd.bP gE (af (bz HB)));have aQ:=aa.mk (bn (g:=qZ) (o:= .cells #[.int .u8 aV,.int .u8 bh,.int .u16 0,.int .u32 bw,.slice fE cA.length fF] 101 (0,0)) (by (with_reducible repeat (first|refine aN ?_ _|refine aK ?_|refine aM ?_ _));refine bM (cs:= #[.int .u8 aV,.int .u8 bh,.int .u16 bp,.int .u32 bw,.slice fE cA.length fF]) ?_ 2 _ rfl;(with_reducible repeat (first|refine aN ?_ _|refine aK ?_|refine aM ?_ _));exact lg.out) hb);have bt:=aa.mk (aq (bz HB) hb);clear lg;clear HB;have Da:=aJ;have lg:=aQ;have HB:=bt;clear aJ aQ bt;(try clear hb);(try clear hb2);(try clear hk);(try clear hi);(try clear gE)))
  go_ret
  exact ⟨by first|rfl|(simp [aj,ak]<;>rfl)|(simp [*,aj,ak]<;>rfl),bz HB⟩
def iY.f (l0:List Int):Option (List Int×Int):=if 2<=(l0.length:Int) then ((cW.f (l0.drop 2)).bind fun vL=>(if 0<=vL then (if vL<=(l0.length:Int) then ((cH.f (l0.take (vL:Int).toNat)).bind fun Ri=>(if 0<(l0.length:Int) then (some (Ri,wrap64 (4*(wrap64 (Go.bits .and .u8 (rd l0 0) 15))))) else (none))) else (none)) else (none))) else (none)
def iY.T1:Bool×List (List Nat×List Nat):=(true,[([],[]),([],[]),([1],[1]),([2],[2]),([0,3],[0,3]),([4,3],[4]),([],[]),([6],[6]),([7],[7]),([8],[8]),([9],[9]),([10],[10]),([5,5,0,1,2,3,4,5],[5]),([11,12,0,1,2,3,4,5,6,7,8,9,10,11,12],[11])])
def iY.B1:List Nat:=[0,0,2,6,15,31,0,64,192,448,960,1984,63,8191]
theorem iY.Zn:gS .any (opsOf Try.f77 1)=iY.T1:=by kernel_rfl
theorem iY.P7:dN iY.T1.2 iY.B1=true:=by kernel_rfl
theorem iY.calls (A0:Option Addr) (c0:Nat) (l0:List Int) (r1:List Int) (r2:Int) (w:World) (hr0:Kd.C (Kd.int .u8) w A0 l0.length l0) (hc0:l0.length<=c0) (h:iY.f l0=some (r1,r2)):
  Calls Try.prog 77 #[.slice A0 l0.length c0] w fun e w'=>∃ o6:Value,e= .returned (.tuple #[o6,.int .i64 r2]) /\ Kd.R (Kd.int .u8) 5 w' w.heap.size (fun _=>True) o6 r1 /\ Below w.heap.size w w':=by
 have gh:=aa.mk hr0;have jC:=aa.mk hc0;clear hr0 hc0;have HB:=gj w;have H:(if 2<=(l0.length:Int) then ((cW.f (l0.drop 2)).bind fun vL=>(if 0<=vL then (if vL<=(l0.length:Int) then ((cH.f (l0.take (vL:Int).toNat)).bind fun Ri=>(if 0<(l0.length:Int) then (some (Ri,wrap64 (4*(wrap64 (Go.bits .and .u8 (rd l0 0) 15))))) else (none))) else (none)) else (none))) else (none))=some (r1,r2):=h;clear h
 by_cases c2:2<=(l0.length:Int)
 ·rw [au c2] at H
  have kg:=eq_true c2;have mG:decide (2<=(l0.length:Int))=true:=bS c2;clear c2;replace H:=cZ H;obtain ⟨vL,wE,H⟩:=H
  (try dsimp -simprocs only at H)
  have A3:=aa.mk wE;clear wE
  by_cases c4:0<=vL
  ·rw [au c4] at H
   have mH:=eq_true c4;have xQ:decide (0<=vL)=true:=bS c4;clear c4
   by_cases c5:vL<=(l0.length:Int)
   ·rw [au c5] at H
    have mS:=eq_true c5;have qz:decide (vL<=(l0.length:Int))=true:=bS c5;clear c5;replace H:=cZ H;obtain ⟨Ri,wq,H⟩:=H
    (try dsimp -simprocs only at H)
    have A6:=aa.mk wq;clear wq
    by_cases c7:0<(l0.length:Int)
    ·rw [au c7] at H
     have Ah:decide (0<(l0.length:Int))=true:=bS c7;have TU:decide (0<l0.length)=true:=bS (by omega);clear c7;simp only [Option.some.injEq,Prod.mk.injEq] at H
     obtain ⟨rfl,rfl⟩:=H
     go_enter Try.func77,Try.ntmps77
     try go_wp2
     have aJ:=aa.mk (bf HB.out);clear HB;have HB:=aJ;clear aJ;obtain ⟨i09,PR,_,PS,_⟩:=info_parts gB;obtain ⟨A9,Ada,hA9,hC9⟩:=fR (P:=Try.prog) (Value.int .u8) 0 23 5 .i64 Try.underlying23 PR PS A0 c0 l0 2 (by omega) gD jC.out;have Xp:=aa.mk (Kd.dD (h1:=fun _=>rfl) (hA9 _ (Kd.dc gh.out)));have Afi:=aa.mk hC9;clear hA9 hC9 PR PS;have AaM:0<=(0:Int):=(by omega)
     have AaN:0<(l0.length:Int):=gD;obtain ⟨Rj,AmS,vM⟩:=Kd.dB gh.out 0 AaM AaN;have sq:=vM
     (try rw [show ((0:Int)).toNat=0 from rfl] at sq)
     (try rw [show 0*1=0 from rfl] at sq)
     (try rw [Addr.add_zero'] at sq)
     cases AmS
     have AqG:(0<l0.length)=True:=eq_true (by omega)
     (try rw [show ((0:Int)).toNat=0 from rfl] at vM)
     (try rw [Addr.add_zero'] at vM)
     replace vM:=(HB.out.cell (dA w _ vM)).trans vM;replace AaM:=eq_true AaM;replace AaN:=eq_true AaN;refine dg (n:=14) (S:=fun w'=>w'.cell? Rj=some (.int .u8 (rd l0 0))) (ds:=[]) #[false,false,false,false,false,false,false,false,false,false,false,false,false,false] (by kernel_rfl) rfl rfl (((HB.out.cell (dA w _ sq)).trans sq)) (fun hHeld=> ?_);refine bH iY.Zn iY.P7 (fun az dW=> ?_);generalize w.drew=w8 at HB Xp vM hHeld|-
     refine pz 0 4 az ?_;refine pz 1 5 az ?_;refine pz 2 6 az ?_;refine pz 6 10 az ?_;refine pz 7 11 az ?_;refine tz 8 12 az dW hHeld ?_;refine pz 9 13 az ?_;refine pz 10 14 az ?_;refine pz 11 15 az ?_;refine oz 3 (some 7) az (fun K hK=> ?_);refine kF Try.func87 (by kernel_rfl) rfl #[.slice A9 (l0.drop 2).length (c0 - 2)] (by rfl) rfl rfl (by (try simp only [List.map_toArray,List.map_cons,List.map_nil]);first|done|(rw [show (l0.drop 2).length=(l0.length - 2) from List.length_drop]<;>rfl)|rfl|(simp only [List.length_drop,List.length_take];rfl)|(go_simp;done)|(simp [Act.eval,IntKind.signed];done)|(simp [Act.eval,IntKind.signed];rfl)) ?_
     with_reducible refine (cW.calls _ _ (l0.drop 2) vL _ ?aG ?aH A3.out).mono ?_
     (case aG=>exact Kd.aU Xp.out (bz HB))
     (case aH=>exact Afi.out)
     rintro e w' ⟨rfl,⟨nd,rfl⟩⟩;refine ⟨_,rfl, ?_⟩;obtain ⟨Atx,Xq,_,Xr,_⟩:=info_parts gB;obtain ⟨AmT,Afj,Afk⟩:=oK (P:=Try.prog) (Value.int .u8) 0 23 5 .u16 Try.underlying23 Xq Xr (some Rj) c0 l0 vL gD gD jC.out;have Afl:=aa.mk (Kd.dD (h1:=fun _=>rfl) (Afj _ (Kd.dc gh.out)));have Afm:=aa.mk Afk;clear Afj Afk Xq Xr;refine hK.out _ _ (((HB.out.cell (dA w _ sq)).trans sq)) (fun hHeld=> ?_);clear hK K;refine nz 7 ?_;refine pz 4 8 az ?_;refine oz 5 (some 9) az (fun K hK=> ?_)
     refine kF Try.func97 (by kernel_rfl) rfl #[.slice (some Rj) (l0.take (vL:Int).toNat).length c0] (by rfl) rfl rfl (by (try simp only [List.map_toArray,List.map_cons,List.map_nil]);first|done|(rw [show (l0.take (vL:Int).toNat).length=vL.toNat from (by rw [List.length_take];have h_:(vL:Int)<=(l0.length:Int):=gD;omega)]<;>rfl)|rfl|(simp only [List.length_drop,List.length_take];rfl)|(go_simp;done)|(simp [Act.eval,IntKind.signed];done)|(simp [Act.eval,IntKind.signed];rfl)) ?_
     with_reducible refine (cH.calls _ _ (l0.take (vL:Int).toNat) Ri _ ?aG ?aH A6.out).mono ?_
     (case aG=>exact Kd.aU Afl.out (bz HB))
     (case aH=>exact Afm.out)
     rintro e qf ⟨Aty,rfl,gE,hb⟩;refine ⟨_,rfl, ?_⟩;have aJ:=aa.mk (Kd.bP gE (af (bz HB)));have aQ:=aa.mk (aq (bz HB) hb);clear HB;have Afn:=aJ;have HB:=aQ;clear aJ aQ
     (try clear hb)
     (try clear hb2)
     (try clear hk)
     (try clear hi)
     (try clear gE)
     refine hK.out _ _ (((HB.out.cell (dA w _ sq)).trans sq)) (fun hHeld=> ?_);clear hK K;refine nz 9 ?_;refine pz 12 2 az ?_;refine pz 13 3 az ?_;refine dz az ?_
     try go_wp2
     go_ret2
     exact ⟨_,by first|rfl|(simp [aj,ak]<;>rfl)|(simp [*,aj,ak]<;>rfl),by (with_reducible repeat (first|apply Kd.eX|apply Kd.eT|apply Kd.eY));exact Afn.out,bz HB⟩
    ·rw [ax c7] at H
     cases H
   ·rw [ax c5] at H
    cases H
  ·rw [ax c4] at H
   cases H
 ·rw [ax c2] at H
  cases H
attribute [local go_sem] ot
attribute [local go_sem] ou
attribute [local go_sem] ow
attribute [local go_sem] ox
attribute [local go_sem] oy
attribute [local go_sem] oA
attribute [local go_sem] oC
attribute [local go_sem] oD
attribute [local go_sem] oE
attribute [local go_sem] oF
attribute [local go_sem] oG
attribute [local go_sem] oH
theorem RB.BP {w w1:World} {base:Nat} {v:Value} {x:RB} (h:x.V w base v) (hb:Below w.heap.size w w1):x.V w1 base v:=by
 cases x with
 |no=>exact h
 |udp=>obtain ⟨v3,e,h3⟩:=h;exact ⟨v3,e,Kd.fU h3 hb⟩
 |tcp=>obtain ⟨v8,v9,e,h8,h9⟩:=h;exact ⟨v8,v9,e,Kd.fU h8 hb,Kd.fU h9 hb⟩
 |wC=>obtain ⟨v4,e,h4⟩:=h;exact ⟨v4,e,Kd.fU h4 hb⟩
theorem RB.Afo {W w1:World} {base:Nat} {v:Value} {x:RB} {g t:Nat} {ds:Array Value} (h:kS W w1 g) (hx:x.V W base v) (hg:W.heap[g]?=some (.cells ds t (0,0))) (ht:5≠t):x.V w1 base v:=by
 cases x with
 |no=>exact hx
 |udp=>obtain ⟨v3,e,h3⟩:=hx;exact ⟨v3,e,kS.R h h3 hg ht⟩
 |tcp=>obtain ⟨v8,v9,e,h8,h9⟩:=hx;exact ⟨v8,v9,e,kS.R h h8 hg ht,kS.R h h9 hg ht⟩
 |wC=>obtain ⟨v4,e,h4⟩:=hx;exact ⟨v4,e,kS.R h h4 hg ht⟩
theorem mV {w w1:World} {base:Nat} {v:Value} {x:RB} (h:aa (x.V w base v)) (hb:Below w.heap.size w w1):aa (x.V w1 base v):=⟨RB.BP h.out hb⟩
theorem oV {W w1:World} {base:Nat} {v:Value} {x:RB} {g t:Nat} {ds:Array Value} (o:kS W w1 g) (h:aa (x.V W base v)) (hg:aa (W.heap[g]?=some (.cells ds t (0,0)))) (ht:5≠t):aa (x.V w1 base v):=⟨RB.Afo o h.out hg.out ht⟩
def pointed.f (k:Nat) (si sp di dp:Int):RB ->Option (List Int)
 | .no=>none
 | .udp _ _ uc ub=>if uc=0 then (mw.f sp dp uc ub).bind fun r=>some r.1 else (xI.f k si di sp dp uc ub).bind fun c=>(mw.f sp dp c ub).bind fun r=>some r.1
 | .tcp _ _ tq ta tf tw tc tu nf tb=>(xJ.f k si di sp dp tq ta tf tw tc tu nf tb).bind fun c=>(eP.f k sp dp tq ta tf tw c tu nf tb).bind fun r=>some r.1
 | .wC mt mc ms mr mb=>(kL.f mt mc ms mr mb).bind fun ec=>if ec=true then (qY.f k mt mc ms (Go.bits .or .u32 (Go.bits .and .u32 mr 65535) (sp % 4294967296*65536 % 4294967296)) mb).bind fun c=>(iF.f mt mc c (Go.bits .or .u32 (Go.bits .and .u32 mr 65535) (sp % 4294967296*65536 % 4294967296)) mb).bind fun r=>some r.1
  else (qY.f k mt mc ms mr mb).bind fun c=>(iF.f mt mc c mr mb).bind fun r=>some r.1
def pointed.Og.T:Bool×List (List Nat×List Nat):=(true,[([],[]),([0],[0]),([],[]),([2],[2]),([0,1],[]),([4,1,0,1],[1,4]),([0,1,2,3,4,5],[]),([6,3,5,0,1,2,3,4,5],[3,6])])
theorem pointed.Og.tab:gS .any (opsOf Try.f70 10)=pointed.Og.T:=by kernel_rfl
theorem pointed.Og.bits:dN pointed.Og.T.2 [0,1,0,4,3,19,63,127]=true:=by kernel_rfl
def pointed.Cc.T:Bool×List (List Nat×List Nat):=(true,[([],[]),([0],[0]),([],[]),([2],[2]),([0,1],[]),([4,1,0,1],[1,4]),([0,1,2,3,4,5],[]),([6,3,5,0,1,2,3,4,5],[3,6])])
theorem pointed.Cc.tab:gS .any (opsOf Try.f70 16)=pointed.Cc.T:=by kernel_rfl
theorem pointed.Cc.bits:dN pointed.Cc.T.2 [0,1,0,4,3,19,63,127]=true:=by kernel_rfl
attribute [local go_sem] ot
attribute [local go_sem] ou
attribute [local go_sem] ow
attribute [local go_sem] ox
attribute [local go_sem] oy
attribute [local go_sem] oA
attribute [local go_sem] oC
attribute [local go_sem] oD
attribute [local go_sem] oE
attribute [local go_sem] oF
attribute [local go_sem] oG
attribute [local go_sem] oH
def Oh.R2.T:Bool×List (List Nat×List Nat):=(true,[([],[]),([],[]),([],[]),([0,0],[0]),([1,3,0,1,3],[1]),([2,4,0,1,2,3,4],[2])])
theorem Oh.R2.tab:gS .any (opsOf Try.f36 2)=Oh.R2.T:=by kernel_rfl
theorem Oh.R2.bits:dN Oh.R2.T.2 [0,0,0,1,11,31]=true:=by kernel_rfl
def LK.Told (r:LK) (base:Nat) (w0:World) (e:Ending) (w':World):Prop:=
 ∃ v8 v9 vi:Value,e= .returned (.tuple #[.agg #[.int .u8 r.a,.int .u8 r.t,.int .u8 r.pr,.int .u16 r.i,.int .u8 r.fl,.int .u16 r.dM,.int .u32 r.s,.int .u32 r.d,v8,v9],.agg #[.int .u8 r.pr,.int .u32 r.s,.int .u16 r.sp,.int .u32 r.d,.int .u16 r.dp,.int .u8 r.ff,vi],.int .i64 r.e]) /\ Kd.R (Kd.int .u8) 5 w' base (fun _=>True) v8 r.o /\ Kd.R (Kd.int .u8) 5 w' base (fun _=>True) v9 r.b /\ Kd.R EG 65 w' base (fun _=>True) vi r.wz /\ Below base w0 w'
theorem vN.via (A:Option Addr) (c:Nat) (l:List Int) (r:LK) (w:World) (hC:Kd.C (Kd.int .u8) w A l.length l) (hL:l.length<=c) (h69:∀ w2:World,Kd.C (Kd.int .u8) w2 A l.length l ->Calls Try.prog 69 #[.slice A l.length c] w2 fun e w'=>r.Post w2.heap.size w2 e w'):
  Calls Try.prog 36 #[.slice A l.length c] w fun e w'=>r.Told w.heap.size w e w':=by
 have iQ:=Try.underlying65;have jb:=Try.underlying73;have nn:=Try.underlying76;obtain ⟨a,t,pr,i,fl,dM,s,d,o,b,x,sp,dp,ff,wz,e_⟩:=r;have HB:=gj w;have HC:=aa.mk hC;have HL:=aa.mk hL;have HP:=aa.mk h69;have fL:aa ((Try.prog.info? 65).map (·.size)=some 2):=⟨by kernel_rfl⟩
 have eI:aa ((Try.prog.info? 73).map (·.size)=some 10):=⟨by kernel_rfl⟩
 have iN:aa ((Try.prog.info? 76).map (·.size)=some 7):=⟨by kernel_rfl⟩
 clear hC hL h69
 go_enter Try.func36,Try.ntmps36
 go_upto_region 1 with (first|((with_reducible refine aA (N:=2) rfl ?_);refine aC ?gJ (N:=2) ?iS (cs:= #[.int .u8 0,.int .u8 0,.int .u8 0,.int .u16 0,.int .u8 0,.int .u16 0,.int .u32 0,.int .u32 0,.slice none 0 0,.slice none 0 0]) (t:=73) ?fq ?_;(case iS=>rfl);(case gJ=>rfl);(case fq=>first|(go_simp;done)|(go_simp;rfl));intro gr cv w1 bJ cP;have AmU:=aa.mk (show w.heap.size<=gr by rw [cv];exact af HB.out);have Bk:=aa.mk bJ;have ah:=cP;replace HB:=mB HB ah;clear ah;clear cv bJ cP)|((with_reducible refine aA (N:=3) rfl ?_);refine aC ?gJ (N:=3) ?iS (cs:= #[.int .u8 0,.int .u32 0,.int .u16 0,.int .u32 0,.int .u16 0,.int .u8 0,.slice none 0 0]) (t:=76) ?fq ?_;(case iS=>rfl);(case gJ=>rfl);(case fq=>first|(go_simp;done)|(go_simp;rfl));intro gq cv w2 bJ cP;have mT:=aa.mk (show w.heap.size<=gq by rw [cv];exact af HB.out);have bu:=aa.mk bJ;have ah:=cP;replace HB:=mB HB ah;replace Bk:=mX Bk ah;clear ah;clear cv bJ cP))
 go_wp2_with fail
 refine (HP.out _ (Kd.aU HC.out HB.out)).mono ?_;rintro ev w3 hpost;obtain ⟨vo,vb,vx,vi,rfl,ho,qn,hx,hi,hb⟩:=hpost;dsimp only at ho qn hx hi
 have bQ:=lD ho HB;obtain ⟨Ao,co,rfl,_,_⟩:=Kd.bW ho;clear ho;have bC:=lD qn HB;obtain ⟨Ab,cb,rfl,_,_⟩:=Kd.bW qn;clear qn;have lp:=aa.mk (Kd.bP hi (af HB.out));obtain ⟨Ai,ci,rfl,_,_⟩:=Kd.bW hi;clear hi;clear hx;have ah:=hb;replace HB:=mB HB ah;replace Bk:=mX Bk ah;replace bu:=mX bu ah;clear ah;clear hb HP
 (try dsimp only)
 go_upto_region 2 with (first|((with_reducible refine aA (N:=5) rfl ?_);refine aC ?gJ (N:=5) ?iS (cs:= #[.int .u8 0,.int .u8 0,.int .u8 0,.int .u16 0,.int .u8 0,.int .u16 0,.int .u32 0,.int .u32 0,.slice none 0 0,.slice none 0 0]) (t:=73) ?fq ?_;(case iS=>rfl);(case gJ=>rfl);(case fq=>first|(go_simp;done)|(go_simp;rfl));intro gp cv w4 bJ cP;have lE:=aa.mk (show w.heap.size<=gp by rw [cv];exact af HB.out);have aT:=aa.mk bJ;have Db:aa (gr≠gp):=⟨by rw [cv];exact (dJ Bk).out⟩;have ah:=cP;replace HB:=mB HB ah;replace Bk:=mX Bk ah;replace bu:=mX bu ah;replace bQ:=mR bQ ah;replace bC:=mR bC ah;replace lp:=mI lp ah;clear ah;clear cv bJ cP)|((with_reducible refine aA (N:=7) rfl ?_);refine aC ?gJ (N:=7) ?iS (cs:= #[.int .u8 0,.int .u32 0,.int .u16 0,.int .u32 0,.int .u16 0,.int .u8 0,.slice none 0 0]) (t:=76) ?fq ?_;(case iS=>rfl);(case gJ=>rfl);(case fq=>first|(go_simp;done)|(go_simp;rfl));intro gf cv w5 bJ cP;have nJ:=aa.mk (show w.heap.size<=gf by rw [cv];exact af HB.out);have bI:=aa.mk bJ;have cg:aa (gq≠gf):=⟨by rw [cv];exact (dJ bu).out⟩;have ah:=cP;replace HB:=mB HB ah;replace Bk:=mX Bk ah;replace bu:=mX bu ah;replace bQ:=mR bQ ah;replace bC:=mR bC ah;replace lp:=mI lp ah;replace aT:=mX aT ah;clear ah;clear cv bJ cP)|((refine dO rfl rfl rfl rfl rfl aT.out eI.out rfl (by simp [Value.oneCell']) ?_);intro w6 hs_ ag;replace Bk:=oN ag Bk Db;replace bu:=oX ag bu aT (by decide);replace bQ:=oR ag bQ aT (by decide);replace bC:=oR ag bC aT (by decide);replace lp:=oI ag lp aT (by decide);replace bI:=oX ag bI aT (by decide);replace HB:=oB ag HB lE;clear ag;replace aT:=aa.mk hs_;clear hs_)|((refine dO rfl rfl rfl rfl rfl bI.out iN.out rfl (by simp [Value.oneCell']) ?_);intro w7 hs_ ag;replace Bk:=oX ag Bk bI (by decide);replace bu:=oN ag bu cg;replace bQ:=oR ag bQ bI (by decide);replace bC:=oR ag bC bI (by decide);replace lp:=oI ag lp bI (by decide);replace aT:=oX ag aT bI (by decide);replace HB:=oB ag HB nJ;clear ag;replace bI:=aa.mk hs_;clear hs_))
 refine dg (n:=6) (S:=fun w'=>w'.heap[gp]?=some (.cells #[.int .u8 a,.int .u8 t,.int .u8 pr,.int .u16 i,.int .u8 fl,.int .u16 dM,.int .u32 s,.int .u32 d,.slice Ao o.length co,.slice Ab b.length cb] 73 (0,0)) /\ w'.heap[gf]?=some (.cells #[.int .u8 pr,.int .u32 s,.int .u16 sp,.int .u32 d,.int .u16 dp,.int .u8 ff,.slice Ai wz.length ci] 76 (0,0))) (ds:=[]) #[false,false,false,false,false,false] (by kernel_rfl) rfl rfl ⟨aT.out,bI.out⟩ (fun hHeld=> ?_);refine bH Oh.R2.tab Oh.R2.bits (fun az dW=> ?_);have ah:=bf (Below.refl w7.heap.size w7);replace HB:=mB HB ah;replace Bk:=mX Bk ah;replace bu:=mX bu ah;replace bQ:=mR bQ ah;replace bC:=mR bC ah;replace lp:=mI lp ah;replace aT:=mX aT ah;replace bI:=mX bI ah;clear ah
 generalize w7.drew=w8 at HB Bk bu bQ bC lp aT bI hHeld|-
 refine pz 2 18 az ?_;refine tv 0 16 (.agg #[.int .u8 a,.int .u8 t,.int .u8 pr,.int .u16 i,.int .u8 fl,.int .u16 dM,.int .u32 s,.int .u32 d,.slice Ao o.length co,.slice Ab b.length cb]) az dW hHeld ?_ ?_
 ·intro w' s0
  obtain ⟨s0,s1⟩:=s0;exact br (p:= .tmp 5) (ty:=73) (by rfl) (by rfl) s0 jb (by rfl) eI.out
 refine nz 16 ?_;refine tv 1 17 (.agg #[.int .u8 pr,.int .u32 s,.int .u16 sp,.int .u32 d,.int .u16 dp,.int .u8 ff,.slice Ai wz.length ci]) az dW hHeld ?_ ?_
 ·intro w' s0
  obtain ⟨s0,s1⟩:=s0;exact br (p:= .tmp 7) (ty:=76) (by rfl) (by rfl) s1 nn (by rfl) iN.out
 refine nz 17 ?_;refine oz 3 (none) az (fun K hK=> ?_);refine cC (by rfl) (by rfl) rfl rfl rfl Bk.out eI.out rfl (by simp [Value.oneCell']) ?_;intro w9 hs_ ag;replace bu:=oX ag bu Bk (by decide);replace bQ:=oR ag bQ Bk (by decide);replace bC:=oR ag bC Bk (by decide);replace lp:=oI ag lp Bk (by decide);replace aT:=oN ag aT (bD Db);replace bI:=oX ag bI Bk (by decide);replace HB:=oB ag HB AmU;clear ag;replace Bk:=aa.mk hs_;clear hs_;refine hK.out _ _ ⟨aT.out,bI.out⟩ (fun hHeld=> ?_);clear hK K;refine oz 4 (none) az (fun K hK=> ?_);refine cC (by rfl) (by rfl) rfl rfl rfl bu.out iN.out rfl (by simp [Value.oneCell']) ?_;intro j4 hs_ ag;replace Bk:=oX ag Bk bu (by decide);replace bQ:=oR ag bQ bu (by decide);replace bC:=oR ag bC bu (by decide)
 replace lp:=oI ag lp bu (by decide);replace aT:=oX ag aT bu (by decide);replace bI:=oN ag bI (bD cg);replace HB:=oB ag HB mT;clear ag;replace bu:=aa.mk hs_;clear hs_;refine hK.out _ _ ⟨aT.out,bI.out⟩ (fun hHeld=> ?_);clear hK K;refine pz 5 4 az ?_;refine dz az ?_;clear az dW hHeld
 (try dsimp only)
 go_wp2
 (try simp only [Exit.inBlock,Exit.then])
 refine bodyPost_ret (iz rfl _ _ _ _ _ _ _ _ (0,0) (0,0) _ _ rfl Bk.out jb rfl eI.out rfl bu.out nn rfl iN.out) rfl ?_;exact ⟨_,_,_,rfl,bQ.out,bC.out,lp.out,HB.out⟩
attribute [local go_sem] ot
attribute [local go_sem] ou
attribute [local go_sem] ow
attribute [local go_sem] ox
attribute [local go_sem] oy
attribute [local go_sem] oA
attribute [local go_sem] oC
attribute [local go_sem] oD
attribute [local go_sem] oE
attribute [local go_sem] oF
attribute [local go_sem] oG
attribute [local go_sem] oH
theorem look.Gq (k:Nat) (A:Option Addr) (c:Nat) (l:List Int) (a t i fl dM s d:Int) (o b:List Int) (r:LK) (w:World) (hC:Kd.C (Kd.int .u8) w A l.length l) (hL:l.length<=c) (hP:cX.f k l=some (a,t,1,i,fl,dM,s,d,o,b,0)) (h:pZ k a t i fl dM s d o b=some r):
  Calls Try.prog 69 #[.slice A l.length c] w fun e w'=>r.Post w.heap.size w e w':=by
 have jb:=Try.underlying73;have nn:=Try.underlying76;have wB:=Try.underlying83;have qU:=Try.underlying137;have ny:=Try.underlying101;have CW:=Try.underlying179;have C0:=Try.underlying181;have C4:=Try.underlying183;have HB:=gj w;have HC:=aa.mk hC;have HL:=aa.mk hL;have HP:=aa.mk hP;have HF:=aa.mk h;have eI:aa ((Try.prog.info? 73).map (·.size)=some 10):=⟨by kernel_rfl⟩
 have iN:aa ((Try.prog.info? 76).map (·.size)=some 7):=⟨by kernel_rfl⟩
 have qB:aa ((Try.prog.info? 83).map (·.size)=some 4):=⟨by kernel_rfl⟩
 have jT:aa ((Try.prog.info? 137).map (·.size)=some 10):=⟨by kernel_rfl⟩
 have ja:aa ((Try.prog.info? 101).map (·.size)=some 5):=⟨by kernel_rfl⟩
 have EW:aa ((Try.prog.info? 179).map (·.size)=some 4):=⟨by kernel_rfl⟩
 have EX:aa ((Try.prog.info? 181).map (·.size)=some 10):=⟨by kernel_rfl⟩
 have Jd:aa ((Try.prog.info? 183).map (·.size)=some 5):=⟨by kernel_rfl⟩
 clear hC hL hP h
 go_enter Try.func69,Try.ntmps69
 go_upto_region 2 with (first|((with_reducible refine aA (N:=2) rfl ?_);refine aC ?gJ (N:=2) ?iS (cs:= #[.int .u8 0,.int .u8 0,.int .u8 0,.int .u16 0,.int .u8 0,.int .u16 0,.int .u32 0,.int .u32 0,.slice none 0 0,.slice none 0 0]) (t:=73) ?fq ?_;(case iS=>rfl);(case gJ=>rfl);(case fq=>first|(go_simp;done)|(go_simp;rfl));intro gi cv w1 bJ cP;have ld:=aa.mk (show w.heap.size<=gi by rw [cv];exact af HB.out);have bg:=aa.mk bJ;have ah:=cP;replace HB:=mB HB ah;clear ah;clear cv bJ cP)|((with_reducible refine aA (N:=4) rfl ?_);refine aC ?gJ (N:=4) ?iS (cs:= #[.int .u8 0,.int .u32 0,.int .u16 0,.int .u32 0,.int .u16 0,.int .u8 0,.slice none 0 0]) (t:=76) ?fq ?_;(case iS=>rfl);(case gJ=>rfl);(case fq=>first|(go_simp;done)|(go_simp;rfl));intro gq cv w2 bJ cP;have mT:=aa.mk (show w.heap.size<=gq by rw [cv];exact af HB.out);have bu:=aa.mk bJ;have ah:=cP;replace HB:=mB HB ah;replace bg:=mX bg ah;clear ah;clear cv bJ cP)|((refine eu rfl rfl rfl rfl rfl iN.out rfl (by simp [Value.oneCell']) ?_);intro fB gH cO))
 revert fB gH cO;intro w3 gH cO;have cB:aa (w3.heap[w2.heap.size]?=some (.cells #[.int .u8 0,.int .u32 0,.int .u16 0,.int .u32 0,.int .u16 0,.int .u8 0,.slice none 0 0] 76 (0,0))):=⟨gH⟩
 have BA:=wN HB;have fN:=dJ bu;have ah:=cO;replace HB:=mB HB ah;replace bg:=mX bg ah;replace bu:=mX bu ah;clear ah;clear gH cO;generalize w2.heap.size=gn at cB BA fN|-
 go_wp2_with fail
 refine (cX.calls k A c l a t 1 i fl dM s d o b 0 _ (Kd.aU HC.out HB.out) HL.out HP.out).mono ?_;rintro ev w4 ⟨vo,vb,rfl,ho,qn,hb⟩;have bQ:=lD ho HB;obtain ⟨Ao,co,rfl,_,_⟩:=Kd.bW ho;clear ho;have bC:=lD qn HB;obtain ⟨Ab,cb,rfl,_,_⟩:=Kd.bW qn;clear qn;have ah:=hb;replace HB:=mB HB ah;replace bg:=mX bg ah;replace bu:=mX bu ah;replace cB:=mX cB ah;clear ah;clear hb HP HC HL
 (try dsimp only)
 go_upto_region 3 with (((refine eu rfl rfl rfl rfl rfl eI.out rfl (by simp [Value.oneCell']) ?_);intro fB gH cO))
 revert fB gH cO;intro w5 gH cO;have aT:aa (w5.heap[w4.heap.size]?=some (.cells #[.int .u8 a,.int .u8 t,.int .u8 1,.int .u16 i,.int .u8 fl,.int .u16 dM,.int .u32 s,.int .u32 d,.slice Ao o.length co,.slice Ab b.length cb] 73 (0,0))):=⟨gH⟩
 have lE:=wN HB;have cD:=dJ bg;have ah:=cO;replace HB:=mB HB ah;replace bg:=mX bg ah;replace bu:=mX bu ah;replace cB:=mX cB ah;replace bQ:=mR bQ ah;replace bC:=mR bC ah;clear ah;clear gH cO;generalize w4.heap.size=gp at aT lE cD|-
 have H:pZ k a t i fl dM s d o b=some r:=HF.out;clear HF;unfold pZ at H
 obtain ⟨⟨mt,mc,ms,mr,mb,e2⟩,hp,H⟩:=bV H;dsimp only at H
 have HG:=aa.mk H;clear H;have Uy:((0:Int)==0)=true:=rfl;have he2:((0:Int) !=0)=false:=rfl
 (try dsimp only)
 go_wp2_with (refine Kd.bL rfl (br rfl rfl aT.out Try.underlying73 rfl eI.out) ?_)
 clear Uy he2;refine (oZ.TV a t i fl dM s d Ao o.length co Ab cb b mt mc ms mr e2 mb _ (Kd.av bC.out).2.2 (Kd.av bC.out).2.1 hp).mono ?_;rintro ev w6 ⟨vmb,rfl,hmb,hb⟩;clear hp;have bY:=lD hmb HB;obtain ⟨yx,yy,rfl,_,_⟩:=Kd.bW hmb;clear hmb;have ah:=hb;replace HB:=mB HB ah;replace bg:=mX bg ah;replace bu:=mX bu ah;replace cB:=mX cB ah;replace bQ:=mR bQ ah;replace bC:=mR bC ah;replace aT:=mX aT ah;clear ah;clear hb;have H:=HG.out;clear HG
 by_cases ce:e2=0
 ·have Bl:(e2==0)=true:=fH ce
  have Je:(e2 !=0)=false:=by rw [bne,Bl];rfl
  rw [au ce] at H
  clear ce;obtain ⟨rt,hr,H⟩:=bV H;have HG:=aa.mk H;clear H
  (try dsimp only)
  go_wp2_with (refine Kd.bL rfl (br rfl rfl aT.out Try.underlying73 rfl eI.out) ?_)
  refine (kX.calls k mt mc ms mr yx yy mb a t 1 i fl dM s d Ao co o Ab cb b rt _ (Kd.av bY.out).2.2 (Kd.av bY.out).2.1 (Kd.av bQ.out).2.2 (Kd.av bQ.out).2.1 (Kd.av bC.out).2.2 (Kd.av bC.out).2.1 (by unfold kX.f;rw [hr];rfl)).mono ?_;rintro ev w7 ⟨rfl,hb⟩;clear hr;have ah:=hb;replace HB:=mB HB ah;replace bg:=mX bg ah;replace bu:=mX bu ah;replace cB:=mX cB ah;replace bQ:=mR bQ ah;replace bC:=mR bC ah;replace aT:=mX aT ah;replace bY:=mR bY ah;clear ah;clear hb;have H:=HG.out;clear HG
  cases rt with
  |false=>
   rw [ax (by decide)] at H
   obtain rfl:=cS H
   (try dsimp only)
   go_upto_region 9 with (fail)
   refine dg (n:=6) (S:=fun w'=>w'.heap[gn]?=some (.cells #[.int .u8 0,.int .u32 0,.int .u16 0,.int .u32 0,.int .u16 0,.int .u8 0,.slice none 0 0] 76 (0,0))) (ds:=[]) #[false,false,false,false,false,false] (by kernel_rfl) rfl rfl cB.out (fun hHeld=> ?_);refine bH look.R9.tab look.R9.bits (fun az dW=> ?_);have ah:=bf (Below.refl w7.heap.size w7);replace HB:=mB HB ah;replace bg:=mX bg ah;replace bu:=mX bu ah;replace cB:=mX cB ah;replace bQ:=mR bQ ah;replace bC:=mR bC ah;replace aT:=mX aT ah;replace bY:=mR bY ah;clear ah;generalize w7.drew=w8 at HB bg bu cB bQ bC aT bY hHeld|-
   refine pz 0 41 az ?_;refine tv 1 42 (.agg #[.int .u8 0,.int .u32 0,.int .u16 0,.int .u32 0,.int .u16 0,.int .u8 0,.slice none 0 0]) az dW hHeld ?_ ?_
   ·intro w' s0
    exact br (p:= .tmp 6) (ty:=76) (by rfl) (by rfl) s0 nn (by rfl) iN.out
   refine nz 42 ?_;refine oz 2 (none) az (fun K hK=> ?_);refine cC (by rfl) (by rfl) rfl rfl rfl bg.out eI.out rfl (by simp [Value.oneCell']) ?_;intro w9 hs_ ag;replace bu:=oX ag bu bg (by decide);replace cB:=oX ag cB bg (by decide);replace bQ:=oR ag bQ bg (by decide);replace bC:=oR ag bC bg (by decide);replace aT:=oN ag aT (bD cD);replace bY:=oR ag bY bg (by decide);replace HB:=oB ag HB ld;clear ag;replace bg:=aa.mk hs_;clear hs_;refine hK.out _ _ cB.out (fun hHeld=> ?_);clear hK K;refine pz 3 3 az ?_;refine oz 4 (none) az (fun K hK=> ?_);refine cC (by rfl) (by rfl) rfl rfl rfl bu.out iN.out rfl (by simp [Value.oneCell']) ?_;intro j4 hs_ ag;replace bg:=oX ag bg bu (by decide);replace cB:=oN ag cB (bD fN)
   replace bQ:=oR ag bQ bu (by decide);replace bC:=oR ag bC bu (by decide);replace aT:=oX ag aT bu (by decide);replace bY:=oR ag bY bu (by decide);replace HB:=oB ag HB mT;clear ag;replace bu:=aa.mk hs_;clear hs_;refine hK.out _ _ cB.out (fun hHeld=> ?_);clear hK K;refine pz 5 5 az ?_;refine dz az ?_;clear az dW hHeld
   (try dsimp only)
   go_wp2
   (try simp only [Exit.inBlock,Exit.then])
   refine bodyPost_ret (ig rfl _ _ _ _ _ _ _ _ (0,0) (0,0) _ _ rfl bg.out jb rfl eI.out rfl bu.out nn rfl iN.out) rfl ?_;exact ⟨_,_,_,_,rfl,Kd.cl _ _ _ _ _,Kd.cl _ _ _ _ _,rfl,Kd.cl _ _ _ _ _,HB.out⟩
  |true=>
   rw [au rfl] at H
   have HG:=aa.mk H;clear H
   (try dsimp only)
   have nl:=cz aT.out 2 rfl;have su:=cz aT.out 6 rfl;have sM:=cz aT.out 7 rfl
   go_upto_region 11 with (((refine eu rfl rfl rfl rfl rfl iN.out rfl (by simp [Value.oneCell']) ?_);intro fB gH cO))
   clear nl su sM;revert fB gH cO;intro w8 gH cO;have bI:aa (w8.heap[w7.heap.size]?=some (.cells #[.int .u8 1,.int .u32 s,.int .u16 0,.int .u32 d,.int .u16 0,.int .u8 0,.slice none 0 0] 76 (0,0))):=⟨gH⟩
   have nJ:=wN HB;have cg:=dJ bu;have jE:=dJ cB;have ah:=cO;replace HB:=mB HB ah;replace bg:=mX bg ah;replace bu:=mX bu ah;replace cB:=mX cB ah;replace bQ:=mR bQ ah;replace bC:=mR bC ah;replace aT:=mX aT ah;replace bY:=mR bY ah;clear ah;clear gH cO;generalize w7.heap.size=gf at bI nJ cg jE|-
   go_wp2_with fail
   refine (kZ.calls mt mc ms mr yx yy mb 1 _ (Kd.av bY.out).2.2 (Kd.av bY.out).2.1 rfl).mono ?_;rintro ev w9 ⟨rfl,hb⟩;have ah:=hb;replace HB:=mB HB ah;replace bg:=mX bg ah;replace bu:=mX bu ah;replace cB:=mX cB ah;replace bQ:=mR bQ ah;replace bC:=mR bC ah;replace aT:=mX aT ah;replace bY:=mR bY ah;replace bI:=mX bI ah;clear ah;clear hb
   (try dsimp only)
   go_upto_region 13 with (((refine eu rfl rfl rfl rfl rfl ja.out rfl (by simp [Value.oneCell']) ?_);intro fB gH cO))
   revert fB gH cO;intro j4 gH cO;have kN:aa (j4.heap[w9.heap.size]?=some (.cells #[.int .u8 mt,.int .u8 mc,.int .u16 ms,.int .u32 mr,.slice yx mb.length yy] 101 (0,0))):=⟨gH⟩
   have Jf:=wN HB;have ah:=cO;replace HB:=mB HB ah;replace bg:=mX bg ah;replace bu:=mX bu ah;replace cB:=mX cB ah;replace bQ:=mR bQ ah;replace bC:=mR bC ah;replace aT:=mX aT ah;replace bY:=mR bY ah;replace bI:=mX bI ah;clear ah;clear gH cO;generalize w9.heap.size=gm at kN Jf|-
   have AmV:=cz kN.out 4 rfl;have H:=HG.out;clear HG;obtain ⟨⟨il,ok⟩,hin,H⟩:=bV H;dsimp only at H
   have HG:=aa.mk H;clear H
   go_wp2_with fail
   clear AmV;refine (cV.calls k yx yy mb il ok _ (Kd.av bY.out).2.2 (Kd.av bY.out).2.1 hin).mono ?_;rintro ev qf ⟨vi,rfl,hi,hb⟩;clear hin;have lp:=aa.mk (Kd.bP hi (af HB.out));obtain ⟨Ai,ci,rfl,_,_⟩:=Kd.bW hi;clear hi;have ah:=hb;replace HB:=mB HB ah;replace bg:=mX bg ah;replace bu:=mX bu ah;replace cB:=mX cB ah;replace bQ:=mR bQ ah;replace bC:=mR bC ah;replace aT:=mX aT ah;replace bY:=mR bY ah;replace bI:=mX bI ah;replace kN:=mX kN ah;clear ah;clear hb;have H:=HG.out;clear HG;obtain ⟨ec,Xt,H⟩:=bV H;have HG:=aa.mk H;clear H
   (try dsimp only)
   go_wp2_with (refine Kd.bL rfl (br rfl rfl kN.out Try.underlying101 rfl ja.out) ?_)
   refine (kL.calls mt mc ms mr yx yy mb ec _ (Kd.av bY.out).2.2 (Kd.av bY.out).2.1 Xt).mono ?_;rintro ev l5 ⟨rfl,hb⟩;clear Xt;have ah:=hb;replace HB:=mB HB ah;replace bg:=mX bg ah;replace bu:=mX bu ah;replace cB:=mX cB ah;replace bQ:=mR bQ ah;replace bC:=mR bC ah;replace aT:=mX aT ah;replace bY:=mR bY ah;replace bI:=mX bI ah;replace kN:=mX kN ah;replace lp:=mI lp ah;clear ah;clear hb;have H:=HG.out;clear HG
   cases ec with
   |false=>
    rw [ax (by decide)] at H
    obtain ⟨er,her,H⟩:=bV H;have HG:=aa.mk H;clear H
    (try dsimp only)
    go_wp2_with (refine Kd.bL rfl (br rfl rfl kN.out Try.underlying101 rfl ja.out) ?_)
    refine (qE.calls mt mc ms mr yx yy mb er _ (Kd.av bY.out).2.2 (Kd.av bY.out).2.1 her).mono ?_;rintro ev sR ⟨rfl,hb⟩;clear her;have ah:=hb;replace HB:=mB HB ah;replace bg:=mX bg ah;replace bu:=mX bu ah;replace cB:=mX cB ah;replace bQ:=mR bQ ah;replace bC:=mR bC ah;replace aT:=mX aT ah;replace bY:=mR bY ah;replace bI:=mX bI ah;replace kN:=mX kN ah;replace lp:=mI lp ah;clear ah;clear hb;have H:=HG.out;clear HG
    cases er with
    |false=>
     rw [ax (by decide)] at H
     obtain rfl:=cS H
     (try dsimp only)
     go_upto_region 18 with (fail)
     refine dg (n:=6) (S:=fun w'=>w'.heap[gn]?=some (.cells #[.int .u8 0,.int .u32 0,.int .u16 0,.int .u32 0,.int .u16 0,.int .u8 0,.slice none 0 0] 76 (0,0))) (ds:=[]) #[false,false,false,false,false,false] (by kernel_rfl) rfl rfl cB.out (fun hHeld=> ?_);refine bH look.Xo.tab look.Xo.bits (fun az dW=> ?_);have ah:=bf (Below.refl sR.heap.size sR);replace HB:=mB HB ah;replace bg:=mX bg ah;replace bu:=mX bu ah;replace cB:=mX cB ah;replace bQ:=mR bQ ah;replace bC:=mR bC ah;replace aT:=mX aT ah;replace bY:=mR bY ah;replace bI:=mX bI ah;replace kN:=mX kN ah;replace lp:=mI lp ah;clear ah;generalize sR.drew=qN at HB bg bu cB bQ bC aT bY bI kN lp hHeld|-
     refine pz 0 88 az ?_;refine tv 1 89 (.agg #[.int .u8 0,.int .u32 0,.int .u16 0,.int .u32 0,.int .u16 0,.int .u8 0,.slice none 0 0]) az dW hHeld ?_ ?_
     ·intro w' s0
      exact br (p:= .tmp 6) (ty:=76) (by rfl) (by rfl) s0 nn (by rfl) iN.out
     refine nz 89 ?_;refine oz 2 (none) az (fun K hK=> ?_);refine cC (by rfl) (by rfl) rfl rfl rfl bg.out eI.out rfl (by simp [Value.oneCell']) ?_;intro yE hs_ ag;replace bu:=oX ag bu bg (by decide);replace cB:=oX ag cB bg (by decide);replace bQ:=oR ag bQ bg (by decide);replace bC:=oR ag bC bg (by decide);replace aT:=oN ag aT (bD cD);replace bY:=oR ag bY bg (by decide);replace bI:=oX ag bI bg (by decide);replace kN:=oX ag kN bg (by decide);replace lp:=oI ag lp bg (by decide);replace HB:=oB ag HB ld;clear ag;replace bg:=aa.mk hs_;clear hs_;refine hK.out _ _ cB.out (fun hHeld=> ?_);clear hK K;refine pz 3 3 az ?_;refine oz 4 (none) az (fun K hK=> ?_);refine cC (by rfl) (by rfl) rfl rfl rfl bu.out iN.out rfl (by simp [Value.oneCell']) ?_
     intro qM hs_ ag;replace bg:=oX ag bg bu (by decide);replace cB:=oN ag cB (bD fN);replace bQ:=oR ag bQ bu (by decide);replace bC:=oR ag bC bu (by decide);replace aT:=oX ag aT bu (by decide);replace bY:=oR ag bY bu (by decide);replace bI:=oN ag bI (bD cg);replace kN:=oX ag kN bu (by decide);replace lp:=oI ag lp bu (by decide);replace HB:=oB ag HB mT;clear ag;replace bu:=aa.mk hs_;clear hs_;refine hK.out _ _ cB.out (fun hHeld=> ?_);clear hK K;refine pz 5 5 az ?_;refine dz az ?_;clear az dW hHeld
     (try dsimp only)
     go_wp2
     (try simp only [Exit.inBlock,Exit.then])
     refine bodyPost_ret (ig rfl _ _ _ _ _ _ _ _ (0,0) (0,0) _ _ rfl bg.out jb rfl eI.out rfl bu.out nn rfl iN.out) rfl ?_;exact ⟨_,_,_,_,rfl,Kd.cl _ _ _ _ _,Kd.cl _ _ _ _ _,rfl,Kd.cl _ _ _ _ _,HB.out⟩
    |true=>
     rw [au rfl] at H
     cases ok with
     |false=>
      rw [ax (by decide)] at H
      obtain rfl:=cS H
      (try dsimp only)
      go_upto_region 18 with (fail)
      refine dg (n:=6) (S:=fun w'=>w'.heap[gn]?=some (.cells #[.int .u8 0,.int .u32 0,.int .u16 0,.int .u32 0,.int .u16 0,.int .u8 0,.slice none 0 0] 76 (0,0))) (ds:=[]) #[false,false,false,false,false,false] (by kernel_rfl) rfl rfl cB.out (fun hHeld=> ?_);refine bH look.Xo.tab look.Xo.bits (fun az dW=> ?_);have ah:=bf (Below.refl sR.heap.size sR);replace HB:=mB HB ah;replace bg:=mX bg ah;replace bu:=mX bu ah;replace cB:=mX cB ah;replace bQ:=mR bQ ah;replace bC:=mR bC ah;replace aT:=mX aT ah;replace bY:=mR bY ah;replace bI:=mX bI ah;replace kN:=mX kN ah;replace lp:=mI lp ah;clear ah;generalize sR.drew=qN at HB bg bu cB bQ bC aT bY bI kN lp hHeld|-
      refine pz 0 88 az ?_;refine tv 1 89 (.agg #[.int .u8 0,.int .u32 0,.int .u16 0,.int .u32 0,.int .u16 0,.int .u8 0,.slice none 0 0]) az dW hHeld ?_ ?_
      ·intro w' s0
       exact br (p:= .tmp 6) (ty:=76) (by rfl) (by rfl) s0 nn (by rfl) iN.out
      refine nz 89 ?_;refine oz 2 (none) az (fun K hK=> ?_);refine cC (by rfl) (by rfl) rfl rfl rfl bg.out eI.out rfl (by simp [Value.oneCell']) ?_;intro yE hs_ ag;replace bu:=oX ag bu bg (by decide);replace cB:=oX ag cB bg (by decide);replace bQ:=oR ag bQ bg (by decide);replace bC:=oR ag bC bg (by decide);replace aT:=oN ag aT (bD cD);replace bY:=oR ag bY bg (by decide);replace bI:=oX ag bI bg (by decide);replace kN:=oX ag kN bg (by decide);replace lp:=oI ag lp bg (by decide);replace HB:=oB ag HB ld;clear ag;replace bg:=aa.mk hs_;clear hs_;refine hK.out _ _ cB.out (fun hHeld=> ?_);clear hK K;refine pz 3 3 az ?_;refine oz 4 (none) az (fun K hK=> ?_);refine cC (by rfl) (by rfl) rfl rfl rfl bu.out iN.out rfl (by simp [Value.oneCell']) ?_
      intro qM hs_ ag;replace bg:=oX ag bg bu (by decide);replace cB:=oN ag cB (bD fN);replace bQ:=oR ag bQ bu (by decide);replace bC:=oR ag bC bu (by decide);replace aT:=oX ag aT bu (by decide);replace bY:=oR ag bY bu (by decide);replace bI:=oN ag bI (bD cg);replace kN:=oX ag kN bu (by decide);replace lp:=oI ag lp bu (by decide);replace HB:=oB ag HB mT;clear ag;replace bu:=aa.mk hs_;clear hs_;refine hK.out _ _ cB.out (fun hHeld=> ?_);clear hK K;refine pz 5 5 az ?_;refine dz az ?_;clear az dW hHeld
      (try dsimp only)
      go_wp2
      (try simp only [Exit.inBlock,Exit.then])
      refine bodyPost_ret (ig rfl _ _ _ _ _ _ _ _ (0,0) (0,0) _ _ rfl bg.out jb rfl eI.out rfl bu.out nn rfl iN.out) rfl ?_;exact ⟨_,_,_,_,rfl,Kd.cl _ _ _ _ _,Kd.cl _ _ _ _ _,rfl,Kd.cl _ _ _ _ _,HB.out⟩
     |true=>
      rw [au rfl] at H
      obtain rfl:=cS H
      (try dsimp only)
      go_upto_region 25 with (((refine gQ rfl rfl (i:=6) (v:= .slice Ai il.length ci) (cs':= #[.int .u8 1,.int .u32 s,.int .u16 0,.int .u32 d,.int .u16 0,.int .u8 0,.slice Ai il.length ci]) bI.out rfl ?fq ?_);(case fq=>(have m_:=(aE bI.out 6).trans (rfl:_=some (.slice none 0 0:Value)));(have nY:=ae bI.out 6);first|(go_simp;done)|(go_simp;rfl));intro qN hs_ ag;replace bg:=oX ag bg bI (by decide);replace bu:=oN ag bu cg;replace cB:=oN ag cB jE;replace bQ:=oR ag bQ bI (by decide);replace bC:=oR ag bC bI (by decide);replace aT:=oX ag aT bI (by decide);replace bY:=oR ag bY bI (by decide);replace kN:=oX ag kN bI (by decide);replace lp:=oI ag lp bI (by decide);replace HB:=oB ag HB nJ;clear ag;replace bI:=aa.mk hs_;clear hs_))
      (try dsimp only)
      go_upto_region 25 with (fail)
      refine dg (n:=7) (S:=fun w'=>w'.heap[gp]?=some (.cells #[.int .u8 a,.int .u8 t,.int .u8 1,.int .u16 i,.int .u8 fl,.int .u16 dM,.int .u32 s,.int .u32 d,.slice Ao o.length co,.slice Ab b.length cb] 73 (0,0)) /\ w'.heap[gf]?=some (.cells #[.int .u8 1,.int .u32 s,.int .u16 0,.int .u32 d,.int .u16 0,.int .u8 0,.slice Ai il.length ci] 76 (0,0))) (ds:=[]) #[false,false,false,false,false,false,false] (by kernel_rfl) rfl rfl ⟨aT.out,bI.out⟩ (fun hHeld=> ?_);refine bH look.Pc.tab look.Pc.bits (fun az dW=> ?_);have ah:=bf (Below.refl qN.heap.size qN);replace HB:=mB HB ah;replace bg:=mX bg ah;replace bu:=mX bu ah;replace cB:=mX cB ah;replace bQ:=mR bQ ah;replace bC:=mR bC ah;replace aT:=mX aT ah;replace bY:=mR bY ah;replace bI:=mX bI ah;replace kN:=mX kN ah
      replace lp:=mI lp ah;clear ah;generalize qN.drew=yE at HB bg bu cB bQ bC aT bY bI kN lp hHeld|-
      refine pz 1 123 az ?_;refine tv 0 122 (.agg #[.int .u8 a,.int .u8 t,.int .u8 1,.int .u16 i,.int .u8 fl,.int .u16 dM,.int .u32 s,.int .u32 d,.slice Ao o.length co,.slice Ab b.length cb]) az dW hHeld ?_ ?_
      ·intro w' s0
       obtain ⟨s0,s1⟩:=s0;exact br (p:= .tmp 7) (ty:=73) (by rfl) (by rfl) s0 jb (by rfl) eI.out
      refine nz 122 ?_;refine tv 2 124 (.agg #[.int .u8 1,.int .u32 s,.int .u16 0,.int .u32 d,.int .u16 0,.int .u8 0,.slice Ai il.length ci]) az dW hHeld ?_ ?_
      ·intro w' s0
       obtain ⟨s0,s1⟩:=s0;exact br (p:= .tmp 10) (ty:=76) (by rfl) (by rfl) s1 nn (by rfl) iN.out
      refine nz 124 ?_;refine oz 3 (none) az (fun K hK=> ?_);refine cC (by rfl) (by rfl) rfl rfl rfl bg.out eI.out rfl (by simp [Value.oneCell']) ?_;intro qM hs_ ag;replace bu:=oX ag bu bg (by decide);replace cB:=oX ag cB bg (by decide);replace bQ:=oR ag bQ bg (by decide);replace bC:=oR ag bC bg (by decide);replace aT:=oN ag aT (bD cD);replace bY:=oR ag bY bg (by decide);replace bI:=oX ag bI bg (by decide);replace kN:=oX ag kN bg (by decide);replace lp:=oI ag lp bg (by decide);replace HB:=oB ag HB ld;clear ag;replace bg:=aa.mk hs_;clear hs_;refine hK.out _ _ ⟨aT.out,bI.out⟩ (fun hHeld=> ?_);clear hK K;refine pz 4 3 az ?_;refine oz 5 (none) az (fun K hK=> ?_);refine cC (by rfl) (by rfl) rfl rfl rfl bu.out iN.out rfl (by simp [Value.oneCell']) ?_
      intro Bm hs_ ag;replace bg:=oX ag bg bu (by decide);replace cB:=oN ag cB (bD fN);replace bQ:=oR ag bQ bu (by decide);replace bC:=oR ag bC bu (by decide);replace aT:=oX ag aT bu (by decide);replace bY:=oR ag bY bu (by decide);replace bI:=oN ag bI (bD cg);replace kN:=oX ag kN bu (by decide);replace lp:=oI ag lp bu (by decide);replace HB:=oB ag HB mT;clear ag;replace bu:=aa.mk hs_;clear hs_;refine hK.out _ _ ⟨aT.out,bI.out⟩ (fun hHeld=> ?_);clear hK K;refine pz 6 5 az ?_;refine dz az ?_;clear az dW hHeld
      (try dsimp only)
      go_wp2
      (try simp only [Exit.inBlock,Exit.then])
      refine bodyPost_ret (ig rfl _ _ _ _ _ _ _ _ (0,0) (0,0) _ _ rfl bg.out jb rfl eI.out rfl bu.out nn rfl iN.out) rfl ?_;exact ⟨_,_,_,_,rfl,bQ.out,bC.out,⟨_,rfl,bY.out⟩,lp.out,HB.out⟩
   |true=>
    rw [au rfl] at H
    obtain rfl:=cS H
    (try dsimp only)
    go_upto_region 16 with (fail)
    refine dg (n:=14) (S:=fun w'=>w'.cell? ⟨gm,3,none⟩=some (.int .u32 mr)) (ds:=[]) #[false,false,false,false,false,false,false,false,false,false,false,false,false,false] (by kernel_rfl) rfl rfl ((aE kN.out 3).trans rfl) (fun hHeld=> ?_);refine bH look.Cc.tab look.Cc.bits (fun az dW=> ?_);have ah:=bf (Below.refl l5.heap.size l5);replace HB:=mB HB ah;replace bg:=mX bg ah;replace bu:=mX bu ah;replace cB:=mX cB ah;replace bQ:=mR bQ ah;replace bC:=mR bC ah;replace aT:=mX aT ah;replace bY:=mR bY ah;replace bI:=mX bI ah;replace kN:=mX kN ah;replace lp:=mI lp ah;clear ah;generalize l5.drew=sR at HB bg bu cB bQ bC aT bY bI kN lp hHeld|-
    refine pz 0 68 az ?_;refine pz 4 72 az ?_;refine tz 1 69 az dW hHeld ?_;refine pz 2 70 az ?_;refine pz 3 71 az ?_;refine pz 8 76 az ?_;refine pz 9 77 az ?_;refine tz 5 73 az dW hHeld ?_;refine pz 6 74 az ?_;refine pz 7 75 az ?_;refine oz 10 (none) az (fun K hK=> ?_);refine fK (i:=2) (v:= .int .u16 (mr / 65536 % 65536)) (cs':= #[.int .u8 1,.int .u32 s,.int .u16 (mr / 65536 % 65536),.int .u32 d,.int .u16 0,.int .u8 0,.slice none 0 0]) (by rfl) (by rfl) bI.out rfl (by (have m_:=(aE bI.out 2).trans (rfl:_=some (.int .u16 0:Value)));(have nY:=ae bI.out 2);first|(go_simp;done)|(go_simp;rfl)) ?_;intro qN hs_ ag;replace bg:=oX ag bg bI (by decide);replace bu:=oN ag bu cg;replace cB:=oN ag cB jE;replace bQ:=oR ag bQ bI (by decide)
    replace bC:=oR ag bC bI (by decide);replace aT:=oX ag aT bI (by decide);replace bY:=oR ag bY bI (by decide);replace kN:=oX ag kN bI (by decide);replace lp:=oI ag lp bI (by decide);replace HB:=oB ag HB nJ;clear ag;replace bI:=aa.mk hs_;clear hs_;refine hK.out _ _ ((aE kN.out 3).trans rfl) (fun hHeld=> ?_);clear hK K;refine pz 11 78 az ?_;refine pz 12 79 az ?_;refine oz 13 (none) az (fun K hK=> ?_);refine fK (i:=4) (v:= .int .u16 (mr / 65536 % 65536)) (cs':= #[.int .u8 1,.int .u32 s,.int .u16 (mr / 65536 % 65536),.int .u32 d,.int .u16 (mr / 65536 % 65536),.int .u8 0,.slice none 0 0]) (by rfl) (by rfl) bI.out rfl (by (have m_:=(aE bI.out 4).trans (rfl:_=some (.int .u16 0:Value)));(have nY:=ae bI.out 4);first|(go_simp;done)|(go_simp;rfl)) ?_
    intro yE hs_ ag;replace bg:=oX ag bg bI (by decide);replace bu:=oN ag bu cg;replace cB:=oN ag cB jE;replace bQ:=oR ag bQ bI (by decide);replace bC:=oR ag bC bI (by decide);replace aT:=oX ag aT bI (by decide);replace bY:=oR ag bY bI (by decide);replace kN:=oX ag kN bI (by decide);replace lp:=oI ag lp bI (by decide);replace HB:=oB ag HB nJ;clear ag;replace bI:=aa.mk hs_;clear hs_;refine hK.out _ _ ((aE kN.out 3).trans rfl) (fun hHeld=> ?_);clear hK K;refine dz az ?_;clear az dW hHeld
    (try dsimp only)
    go_upto_region 25 with (fail)
    refine dg (n:=7) (S:=fun w'=>w'.heap[gp]?=some (.cells #[.int .u8 a,.int .u8 t,.int .u8 1,.int .u16 i,.int .u8 fl,.int .u16 dM,.int .u32 s,.int .u32 d,.slice Ao o.length co,.slice Ab b.length cb] 73 (0,0)) /\ w'.heap[gf]?=some (.cells #[.int .u8 1,.int .u32 s,.int .u16 (mr / 65536 % 65536),.int .u32 d,.int .u16 (mr / 65536 % 65536),.int .u8 0,.slice none 0 0] 76 (0,0))) (ds:=[]) #[false,false,false,false,false,false,false] (by kernel_rfl) rfl rfl ⟨aT.out,bI.out⟩ (fun hHeld=> ?_);refine bH look.Pc.tab look.Pc.bits (fun az dW=> ?_);have ah:=bf (Below.refl yE.heap.size yE);replace HB:=mB HB ah;replace bg:=mX bg ah;replace bu:=mX bu ah;replace cB:=mX cB ah;replace bQ:=mR bQ ah;replace bC:=mR bC ah;replace aT:=mX aT ah;replace bY:=mR bY ah;replace bI:=mX bI ah
    replace kN:=mX kN ah;replace lp:=mI lp ah;clear ah;generalize yE.drew=qM at HB bg bu cB bQ bC aT bY bI kN lp hHeld|-
    refine pz 1 123 az ?_;refine tv 0 122 (.agg #[.int .u8 a,.int .u8 t,.int .u8 1,.int .u16 i,.int .u8 fl,.int .u16 dM,.int .u32 s,.int .u32 d,.slice Ao o.length co,.slice Ab b.length cb]) az dW hHeld ?_ ?_
    ·intro w' s0
     obtain ⟨s0,s1⟩:=s0;exact br (p:= .tmp 7) (ty:=73) (by rfl) (by rfl) s0 jb (by rfl) eI.out
    refine nz 122 ?_;refine tv 2 124 (.agg #[.int .u8 1,.int .u32 s,.int .u16 (mr / 65536 % 65536),.int .u32 d,.int .u16 (mr / 65536 % 65536),.int .u8 0,.slice none 0 0]) az dW hHeld ?_ ?_
    ·intro w' s0
     obtain ⟨s0,s1⟩:=s0;exact br (p:= .tmp 10) (ty:=76) (by rfl) (by rfl) s1 nn (by rfl) iN.out
    refine nz 124 ?_;refine oz 3 (none) az (fun K hK=> ?_);refine cC (by rfl) (by rfl) rfl rfl rfl bg.out eI.out rfl (by simp [Value.oneCell']) ?_;intro Bm hs_ ag;replace bu:=oX ag bu bg (by decide);replace cB:=oX ag cB bg (by decide);replace bQ:=oR ag bQ bg (by decide);replace bC:=oR ag bC bg (by decide);replace aT:=oN ag aT (bD cD);replace bY:=oR ag bY bg (by decide);replace bI:=oX ag bI bg (by decide);replace kN:=oX ag kN bg (by decide);replace lp:=oI ag lp bg (by decide);replace HB:=oB ag HB ld;clear ag;replace bg:=aa.mk hs_;clear hs_;refine hK.out _ _ ⟨aT.out,bI.out⟩ (fun hHeld=> ?_);clear hK K;refine pz 4 3 az ?_;refine oz 5 (none) az (fun K hK=> ?_);refine cC (by rfl) (by rfl) rfl rfl rfl bu.out iN.out rfl (by simp [Value.oneCell']) ?_
    intro Mr hs_ ag;replace bg:=oX ag bg bu (by decide);replace cB:=oN ag cB (bD fN);replace bQ:=oR ag bQ bu (by decide);replace bC:=oR ag bC bu (by decide);replace aT:=oX ag aT bu (by decide);replace bY:=oR ag bY bu (by decide);replace bI:=oN ag bI (bD cg);replace kN:=oX ag kN bu (by decide);replace lp:=oI ag lp bu (by decide);replace HB:=oB ag HB mT;clear ag;replace bu:=aa.mk hs_;clear hs_;refine hK.out _ _ ⟨aT.out,bI.out⟩ (fun hHeld=> ?_);clear hK K;refine pz 6 5 az ?_;refine dz az ?_;clear az dW hHeld
    (try dsimp only)
    go_wp2
    (try simp only [Exit.inBlock,Exit.then])
    refine bodyPost_ret (ig rfl _ _ _ _ _ _ _ _ (0,0) (0,0) _ _ rfl bg.out jb rfl eI.out rfl bu.out nn rfl iN.out) rfl ?_;exact ⟨_,_,_,_,rfl,bQ.out,bC.out,⟨_,rfl,bY.out⟩,Kd.cl _ _ _ _ _,HB.out⟩
 ·have Bl:(e2==0)=false:=fc ce
  have Je:(e2 !=0)=true:=bne_iff_ne.2 ce;rw [ax ce] at H
  clear ce;obtain rfl:=cS H
  (try dsimp only)
  go_upto_region 7 with (fail)
  refine dg (n:=7) (S:=fun w'=>w'.heap[gn]?=some (.cells #[.int .u8 0,.int .u32 0,.int .u16 0,.int .u32 0,.int .u16 0,.int .u8 0,.slice none 0 0] 76 (0,0))) (ds:=[]) #[false,false,false,false,false,false,false] (by kernel_rfl) rfl rfl cB.out (fun hHeld=> ?_);refine bH look.R7.tab look.R7.bits (fun az dW=> ?_);have ah:=bf (Below.refl w6.heap.size w6);replace HB:=mB HB ah;replace bg:=mX bg ah;replace bu:=mX bu ah;replace cB:=mX cB ah;replace bQ:=mR bQ ah;replace bC:=mR bC ah;replace aT:=mX aT ah;replace bY:=mR bY ah;clear ah;generalize w6.drew=w7 at HB bg bu cB bQ bC aT bY hHeld|-
  refine pz 0 34 az ?_;refine pz 2 36 az ?_;refine tv 1 35 (.agg #[.int .u8 0,.int .u32 0,.int .u16 0,.int .u32 0,.int .u16 0,.int .u8 0,.slice none 0 0]) az dW hHeld ?_ ?_
  ·intro w' s0
   exact br (p:= .tmp 6) (ty:=76) (by rfl) (by rfl) s0 nn (by rfl) iN.out
  refine nz 35 ?_;refine oz 3 (none) az (fun K hK=> ?_);refine cC (by rfl) (by rfl) rfl rfl rfl bg.out eI.out rfl (by simp [Value.oneCell']) ?_;intro w8 hs_ ag;replace bu:=oX ag bu bg (by decide);replace cB:=oX ag cB bg (by decide);replace bQ:=oR ag bQ bg (by decide);replace bC:=oR ag bC bg (by decide);replace aT:=oN ag aT (bD cD);replace bY:=oR ag bY bg (by decide);replace HB:=oB ag HB ld;clear ag;replace bg:=aa.mk hs_;clear hs_;refine hK.out _ _ cB.out (fun hHeld=> ?_);clear hK K;refine pz 4 3 az ?_;refine oz 5 (none) az (fun K hK=> ?_);refine cC (by rfl) (by rfl) rfl rfl rfl bu.out iN.out rfl (by simp [Value.oneCell']) ?_;intro w9 hs_ ag;replace bg:=oX ag bg bu (by decide);replace cB:=oN ag cB (bD fN)
  replace bQ:=oR ag bQ bu (by decide);replace bC:=oR ag bC bu (by decide);replace aT:=oX ag aT bu (by decide);replace bY:=oR ag bY bu (by decide);replace HB:=oB ag HB mT;clear ag;replace bu:=aa.mk hs_;clear hs_;refine hK.out _ _ cB.out (fun hHeld=> ?_);clear hK K;refine pz 6 5 az ?_;refine dz az ?_;clear az dW hHeld
  (try dsimp only)
  go_wp2
  (try simp only [Exit.inBlock,Exit.then])
  refine bodyPost_ret (ig rfl _ _ _ _ _ _ _ _ (0,0) (0,0) _ _ rfl bg.out jb rfl eI.out rfl bu.out nn rfl iN.out) rfl ?_;exact ⟨_,_,_,_,rfl,Kd.cl _ _ _ _ _,Kd.cl _ _ _ _ _,rfl,Kd.cl _ _ _ _ _,HB.out⟩
attribute [local go_sem] ot
attribute [local go_sem] ou
attribute [local go_sem] ow
attribute [local go_sem] ox
attribute [local go_sem] oy
attribute [local go_sem] oA
attribute [local go_sem] oC
attribute [local go_sem] oD
attribute [local go_sem] oE
attribute [local go_sem] oF
attribute [local go_sem] oG
attribute [local go_sem] oH
theorem look.Rk (k:Nat) (A:Option Addr) (c:Nat) (l:List Int) (a t pr i fl dM s d:Int) (o b:List Int) (e_:Int) (w:World) (hC:Kd.C (Kd.int .u8) w A l.length l) (hL:l.length<=c) (hP:cX.f k l=some (a,t,pr,i,fl,dM,s,d,o,b,e_)) (he:¬ e_=0):
  Calls Try.prog 69 #[.slice A l.length c] w fun e w'=>(LK.err e_).Post w.heap.size w e w':=by
 have jb:=Try.underlying73;have nn:=Try.underlying76;have HB:=gj w;have HC:=aa.mk hC;have HL:=aa.mk hL;have HP:=aa.mk hP;have eI:aa ((Try.prog.info? 73).map (·.size)=some 10):=⟨by kernel_rfl⟩
 have iN:aa ((Try.prog.info? 76).map (·.size)=some 7):=⟨by kernel_rfl⟩
 clear hC hL hP
 go_enter Try.func69,Try.ntmps69
 go_upto_region 2 with (first|((with_reducible refine aA (N:=2) rfl ?_);refine aC ?gJ (N:=2) ?iS (cs:= #[.int .u8 0,.int .u8 0,.int .u8 0,.int .u16 0,.int .u8 0,.int .u16 0,.int .u32 0,.int .u32 0,.slice none 0 0,.slice none 0 0]) (t:=73) ?fq ?_;(case iS=>rfl);(case gJ=>rfl);(case fq=>first|(go_simp;done)|(go_simp;rfl));intro gi cv w1 bJ cP;have ld:=aa.mk (show w.heap.size<=gi by rw [cv];exact af HB.out);have bg:=aa.mk bJ;have ah:=cP;replace HB:=mB HB ah;clear ah;clear cv bJ cP)|((with_reducible refine aA (N:=4) rfl ?_);refine aC ?gJ (N:=4) ?iS (cs:= #[.int .u8 0,.int .u32 0,.int .u16 0,.int .u32 0,.int .u16 0,.int .u8 0,.slice none 0 0]) (t:=76) ?fq ?_;(case iS=>rfl);(case gJ=>rfl);(case fq=>first|(go_simp;done)|(go_simp;rfl));intro gq cv w2 bJ cP;have mT:=aa.mk (show w.heap.size<=gq by rw [cv];exact af HB.out);have bu:=aa.mk bJ;have ah:=cP;replace HB:=mB HB ah;replace bg:=mX bg ah;clear ah;clear cv bJ cP)|((refine eu rfl rfl rfl rfl rfl iN.out rfl (by simp [Value.oneCell']) ?_);intro fB gH cO))
 revert fB gH cO;intro w3 gH cO;have cB:aa (w3.heap[w2.heap.size]?=some (.cells #[.int .u8 0,.int .u32 0,.int .u16 0,.int .u32 0,.int .u16 0,.int .u8 0,.slice none 0 0] 76 (0,0))):=⟨gH⟩
 have BA:=wN HB;have fN:=dJ bu;have ah:=cO;replace HB:=mB HB ah;replace bg:=mX bg ah;replace bu:=mX bu ah;clear ah;clear gH cO;generalize w2.heap.size=gn at cB BA fN|-
 go_wp2_with fail
 refine (cX.calls k A c l a t pr i fl dM s d o b e_ _ (Kd.aU HC.out HB.out) HL.out HP.out).mono ?_;rintro ev w4 ⟨vo,vb,rfl,ho,qn,hb⟩;have bQ:=lD ho HB;obtain ⟨Ao,co,rfl,_,_⟩:=Kd.bW ho;clear ho;have bC:=lD qn HB;obtain ⟨Ab,cb,rfl,_,_⟩:=Kd.bW qn;clear qn;have ah:=hb;replace HB:=mB HB ah;replace bg:=mX bg ah;replace bu:=mX bu ah;replace cB:=mX cB ah;clear ah;clear hb HP HC HL
 (try dsimp only)
 go_upto_region 3 with (((refine eu rfl rfl rfl rfl rfl eI.out rfl (by simp [Value.oneCell']) ?_);intro fB gH cO))
 revert fB gH cO;intro w5 gH cO;have aT:aa (w5.heap[w4.heap.size]?=some (.cells #[.int .u8 a,.int .u8 t,.int .u8 pr,.int .u16 i,.int .u8 fl,.int .u16 dM,.int .u32 s,.int .u32 d,.slice Ao o.length co,.slice Ab b.length cb] 73 (0,0))):=⟨gH⟩
 have lE:=wN HB;have cD:=dJ bg;have ah:=cO;replace HB:=mB HB ah;replace bg:=mX bg ah;replace bu:=mX bu ah;replace cB:=mX cB ah;replace bQ:=mR bQ ah;replace bC:=mR bC ah;clear ah;clear gH cO;generalize w4.heap.size=gp at aT lE cD|-
 have Uy:(e_==0)=false:=fc he;have he2:(e_ !=0)=true:=bne_iff_ne.2 he;clear he;have H:some (LK.err e_)=some (LK.err e_):=rfl
 (try dsimp only)
 go_upto_region 4 with (fail)
 refine dg (n:=7) (S:=fun w'=>w'.heap[gn]?=some (.cells #[.int .u8 0,.int .u32 0,.int .u16 0,.int .u32 0,.int .u16 0,.int .u8 0,.slice none 0 0] 76 (0,0))) (ds:=[]) #[false,false,false,false,false,false,false] (by kernel_rfl) rfl rfl cB.out (fun hHeld=> ?_);refine bH look.R4.tab look.R4.bits (fun az dW=> ?_);have ah:=bf (Below.refl w5.heap.size w5);replace HB:=mB HB ah;replace bg:=mX bg ah;replace bu:=mX bu ah;replace cB:=mX cB ah;replace bQ:=mR bQ ah;replace bC:=mR bC ah;replace aT:=mX aT ah;clear ah;generalize w5.drew=w6 at HB bg bu cB bQ bC aT hHeld|-
 refine pz 0 24 az ?_;refine pz 2 26 az ?_;refine tv 1 25 (.agg #[.int .u8 0,.int .u32 0,.int .u16 0,.int .u32 0,.int .u16 0,.int .u8 0,.slice none 0 0]) az dW hHeld ?_ ?_
 ·intro w' s0
  exact br (p:= .tmp 6) (ty:=76) (by rfl) (by rfl) s0 nn (by rfl) iN.out
 refine nz 25 ?_;refine oz 3 (none) az (fun K hK=> ?_);refine cC (by rfl) (by rfl) rfl rfl rfl bg.out eI.out rfl (by simp [Value.oneCell']) ?_;intro w7 hs_ ag;replace bu:=oX ag bu bg (by decide);replace cB:=oX ag cB bg (by decide);replace bQ:=oR ag bQ bg (by decide);replace bC:=oR ag bC bg (by decide);replace aT:=oN ag aT (bD cD);replace HB:=oB ag HB ld;clear ag;replace bg:=aa.mk hs_;clear hs_;refine hK.out _ _ cB.out (fun hHeld=> ?_);clear hK K;refine pz 4 3 az ?_;refine oz 5 (none) az (fun K hK=> ?_);refine cC (by rfl) (by rfl) rfl rfl rfl bu.out iN.out rfl (by simp [Value.oneCell']) ?_;intro w8 hs_ ag;replace bg:=oX ag bg bu (by decide);replace cB:=oN ag cB (bD fN);replace bQ:=oR ag bQ bu (by decide);replace bC:=oR ag bC bu (by decide)
 replace aT:=oX ag aT bu (by decide);replace HB:=oB ag HB mT;clear ag;replace bu:=aa.mk hs_;clear hs_;refine hK.out _ _ cB.out (fun hHeld=> ?_);clear hK K;refine pz 6 5 az ?_;refine dz az ?_;clear az dW hHeld
 (try dsimp only)
 go_wp2
 (try simp only [Exit.inBlock,Exit.then])
 refine bodyPost_ret (ig rfl _ _ _ _ _ _ _ _ (0,0) (0,0) _ _ rfl bg.out jb rfl eI.out rfl bu.out nn rfl iN.out) rfl ?_;exact ⟨_,_,_,_,rfl,Kd.cl _ _ _ _ _,Kd.cl _ _ _ _ _,rfl,Kd.cl _ _ _ _ _,HB.out⟩
theorem look.Rl (k:Nat) (A:Option Addr) (c:Nat) (l:List Int) (a t pr i fl dM s d:Int) (o b:List Int) (w:World) (hC:Kd.C (Kd.int .u8) w A l.length l) (hL:l.length<=c) (hP:cX.f k l=some (a,t,pr,i,fl,dM,s,d,o,b,0)) (TW:¬ pr=17) (n6:¬ pr=6) (n1:¬ pr=1):
  Calls Try.prog 69 #[.slice A l.length c] w fun e w'=>(LK.err 21).Post w.heap.size w e w':=by
 have jb:=Try.underlying73;have nn:=Try.underlying76;have HB:=gj w;have HC:=aa.mk hC;have HL:=aa.mk hL;have HP:=aa.mk hP;have eI:aa ((Try.prog.info? 73).map (·.size)=some 10):=⟨by kernel_rfl⟩
 have iN:aa ((Try.prog.info? 76).map (·.size)=some 7):=⟨by kernel_rfl⟩
 clear hC hL hP
 go_enter Try.func69,Try.ntmps69
 go_upto_region 2 with (first|((with_reducible refine aA (N:=2) rfl ?_);refine aC ?gJ (N:=2) ?iS (cs:= #[.int .u8 0,.int .u8 0,.int .u8 0,.int .u16 0,.int .u8 0,.int .u16 0,.int .u32 0,.int .u32 0,.slice none 0 0,.slice none 0 0]) (t:=73) ?fq ?_;(case iS=>rfl);(case gJ=>rfl);(case fq=>first|(go_simp;done)|(go_simp;rfl));intro gi cv w1 bJ cP;have ld:=aa.mk (show w.heap.size<=gi by rw [cv];exact af HB.out);have bg:=aa.mk bJ;have ah:=cP;replace HB:=mB HB ah;clear ah;clear cv bJ cP)|((with_reducible refine aA (N:=4) rfl ?_);refine aC ?gJ (N:=4) ?iS (cs:= #[.int .u8 0,.int .u32 0,.int .u16 0,.int .u32 0,.int .u16 0,.int .u8 0,.slice none 0 0]) (t:=76) ?fq ?_;(case iS=>rfl);(case gJ=>rfl);(case fq=>first|(go_simp;done)|(go_simp;rfl));intro gq cv w2 bJ cP;have mT:=aa.mk (show w.heap.size<=gq by rw [cv];exact af HB.out);have bu:=aa.mk bJ;have ah:=cP;replace HB:=mB HB ah;replace bg:=mX bg ah;clear ah;clear cv bJ cP)|((refine eu rfl rfl rfl rfl rfl iN.out rfl (by simp [Value.oneCell']) ?_);intro fB gH cO))
 revert fB gH cO;intro w3 gH cO;have cB:aa (w3.heap[w2.heap.size]?=some (.cells #[.int .u8 0,.int .u32 0,.int .u16 0,.int .u32 0,.int .u16 0,.int .u8 0,.slice none 0 0] 76 (0,0))):=⟨gH⟩
 have BA:=wN HB;have fN:=dJ bu;have ah:=cO;replace HB:=mB HB ah;replace bg:=mX bg ah;replace bu:=mX bu ah;clear ah;clear gH cO;generalize w2.heap.size=gn at cB BA fN|-
 go_wp2_with fail
 refine (cX.calls k A c l a t pr i fl dM s d o b 0 _ (Kd.aU HC.out HB.out) HL.out HP.out).mono ?_;rintro ev w4 ⟨vo,vb,rfl,ho,qn,hb⟩;have bQ:=lD ho HB;obtain ⟨Ao,co,rfl,_,_⟩:=Kd.bW ho;clear ho;have bC:=lD qn HB;obtain ⟨Ab,cb,rfl,_,_⟩:=Kd.bW qn;clear qn;have ah:=hb;replace HB:=mB HB ah;replace bg:=mX bg ah;replace bu:=mX bu ah;replace cB:=mX cB ah;clear ah;clear hb HP HC HL
 (try dsimp only)
 go_upto_region 3 with (((refine eu rfl rfl rfl rfl rfl eI.out rfl (by simp [Value.oneCell']) ?_);intro fB gH cO))
 revert fB gH cO;intro w5 gH cO;have aT:aa (w5.heap[w4.heap.size]?=some (.cells #[.int .u8 a,.int .u8 t,.int .u8 pr,.int .u16 i,.int .u8 fl,.int .u16 dM,.int .u32 s,.int .u32 d,.slice Ao o.length co,.slice Ab b.length cb] 73 (0,0))):=⟨gH⟩
 have lE:=wN HB;have cD:=dJ bg;have ah:=cO;replace HB:=mB HB ah;replace bg:=mX bg ah;replace bu:=mX bu ah;replace cB:=mX cB ah;replace bQ:=mR bQ ah;replace bC:=mR bC ah;clear ah;clear gH cO;generalize w4.heap.size=gp at aT lE cD|-
 have Uy:((0:Int)==0)=true:=rfl;have he2:((0:Int) !=0)=false:=rfl
 (try dsimp only)
 go_wp2_with (refine Kd.bL rfl (br rfl rfl aT.out Try.underlying73 rfl eI.out) ?_)
 clear Uy he2;refine (oZ.P8 a t i fl dM s d Ao o.length co Ab cb b pr _ TW n6 n1).mono ?_;rintro ev w6 ⟨rfl,hb⟩;have ah:=hb;replace HB:=mB HB ah;replace bg:=mX bg ah;replace bu:=mX bu ah;replace cB:=mX cB ah;replace bQ:=mR bQ ah;replace bC:=mR bC ah;replace aT:=mX aT ah;clear ah;clear hb;have H:some (LK.err 21)=some (LK.err 21):=rfl
 (try dsimp only)
 go_upto_region 7 with (fail)
 refine dg (n:=7) (S:=fun w'=>w'.heap[gn]?=some (.cells #[.int .u8 0,.int .u32 0,.int .u16 0,.int .u32 0,.int .u16 0,.int .u8 0,.slice none 0 0] 76 (0,0))) (ds:=[]) #[false,false,false,false,false,false,false] (by kernel_rfl) rfl rfl cB.out (fun hHeld=> ?_);refine bH look.R7.tab look.R7.bits (fun az dW=> ?_);have ah:=bf (Below.refl w6.heap.size w6);replace HB:=mB HB ah;replace bg:=mX bg ah;replace bu:=mX bu ah;replace cB:=mX cB ah;replace bQ:=mR bQ ah;replace bC:=mR bC ah;replace aT:=mX aT ah;clear ah;generalize w6.drew=w7 at HB bg bu cB bQ bC aT hHeld|-
 refine pz 0 34 az ?_;refine pz 2 36 az ?_;refine tv 1 35 (.agg #[.int .u8 0,.int .u32 0,.int .u16 0,.int .u32 0,.int .u16 0,.int .u8 0,.slice none 0 0]) az dW hHeld ?_ ?_
 ·intro w' s0
  exact br (p:= .tmp 6) (ty:=76) (by rfl) (by rfl) s0 nn (by rfl) iN.out
 refine nz 35 ?_;refine oz 3 (none) az (fun K hK=> ?_);refine cC (by rfl) (by rfl) rfl rfl rfl bg.out eI.out rfl (by simp [Value.oneCell']) ?_;intro w8 hs_ ag;replace bu:=oX ag bu bg (by decide);replace cB:=oX ag cB bg (by decide);replace bQ:=oR ag bQ bg (by decide);replace bC:=oR ag bC bg (by decide);replace aT:=oN ag aT (bD cD);replace HB:=oB ag HB ld;clear ag;replace bg:=aa.mk hs_;clear hs_;refine hK.out _ _ cB.out (fun hHeld=> ?_);clear hK K;refine pz 4 3 az ?_;refine oz 5 (none) az (fun K hK=> ?_);refine cC (by rfl) (by rfl) rfl rfl rfl bu.out iN.out rfl (by simp [Value.oneCell']) ?_;intro w9 hs_ ag;replace bg:=oX ag bg bu (by decide);replace cB:=oN ag cB (bD fN);replace bQ:=oR ag bQ bu (by decide);replace bC:=oR ag bC bu (by decide)
 replace aT:=oX ag aT bu (by decide);replace HB:=oB ag HB mT;clear ag;replace bu:=aa.mk hs_;clear hs_;refine hK.out _ _ cB.out (fun hHeld=> ?_);clear hK K;refine pz 6 5 az ?_;refine dz az ?_;clear az dW hHeld
 (try dsimp only)
 go_wp2
 (try simp only [Exit.inBlock,Exit.then])
 refine bodyPost_ret (ig rfl _ _ _ _ _ _ _ _ (0,0) (0,0) _ _ rfl bg.out jb rfl eI.out rfl bu.out nn rfl iN.out) rfl ?_;exact ⟨_,_,_,_,rfl,Kd.cl _ _ _ _ _,Kd.cl _ _ _ _ _,rfl,Kd.cl _ _ _ _ _,HB.out⟩
attribute [local go_sem] ot
attribute [local go_sem] ou
attribute [local go_sem] ow
attribute [local go_sem] ox
attribute [local go_sem] oy
attribute [local go_sem] oA
attribute [local go_sem] oC
attribute [local go_sem] oD
attribute [local go_sem] oE
attribute [local go_sem] oF
attribute [local go_sem] oG
attribute [local go_sem] oH
theorem pointed.MP (k:Nat) (si sp di dp:Int) (mt mc ms mr:Int) (mb:List Int) (vmb:Value) (r:List Int) (w:World) {base:Nat} (hmb:Kd.R (Kd.int .u8) 5 w base (fun _=>True) vmb mb) (H:pointed.f k si sp di dp (.wC mt mc ms mr mb)=some r):
  Calls Try.prog 70 #[.iface 183 (.agg #[.int .u8 mt,.int .u8 mc,.int .u16 ms,.int .u32 mr,vmb]),.agg #[.int .u32 si,.int .u16 sp],.agg #[.int .u32 di,.int .u16 dp]] w fun e w'=>∃ vz:Value,e= .returned vz /\ Kd.R (Kd.int .u8) 5 w' w.heap.size (fun _=>True) vz r /\ Below w.heap.size w w':=by
 have iQ:=Try.underlying65;have wB:=Try.underlying83;have qU:=Try.underlying137;have ny:=Try.underlying101;have CW:=Try.underlying179;have C0:=Try.underlying181;have C4:=Try.underlying183;unfold pointed.f at H
 have HB:=gj w;have fL:aa ((Try.prog.info? 65).map (·.size)=some 2):=⟨by kernel_rfl⟩
 have qB:aa ((Try.prog.info? 83).map (·.size)=some 4):=⟨by kernel_rfl⟩
 have jT:aa ((Try.prog.info? 137).map (·.size)=some 10):=⟨by kernel_rfl⟩
 have ja:aa ((Try.prog.info? 101).map (·.size)=some 5):=⟨by kernel_rfl⟩
 have EW:aa ((Try.prog.info? 179).map (·.size)=some 4):=⟨by kernel_rfl⟩
 have EX:aa ((Try.prog.info? 181).map (·.size)=some 10):=⟨by kernel_rfl⟩
 have Jd:aa ((Try.prog.info? 183).map (·.size)=some 5):=⟨by kernel_rfl⟩
 obtain ⟨yx,yy,rfl,_,_⟩:=Kd.bW hmb;have bY:=aa.mk hmb;clear hmb;have HG:=aa.mk H;clear H
 go_enter Try.func70,Try.ntmps70
 go_upto_region 2 with (first|((with_reducible refine aA (N:=4) rfl ?_);refine aC ?gJ (N:=4) ?iS (cs:= #[.int .u32 si,.int .u16 sp]) (t:=65) ?fq ?_;(case iS=>rfl);(case gJ=>rfl);(case fq=>first|(go_simp;done)|(go_simp;rfl));intro gs cv w1 bJ cP;have Dc:=aa.mk (show w.heap.size<=gs by rw [cv];exact af HB.out);have cM:=aa.mk bJ;have ah:=cP;replace HB:=mB HB ah;replace bY:=mR bY ah;clear ah;clear cv bJ cP)|((with_reducible refine aA (N:=5) rfl ?_);refine aC ?gJ (N:=5) ?iS (cs:= #[.int .u32 di,.int .u16 dp]) (t:=65) ?fq ?_;(case iS=>rfl);(case gJ=>rfl);(case fq=>first|(go_simp;done)|(go_simp;rfl));intro gd cv w2 bJ cP;have Dd:=aa.mk (show w.heap.size<=gd by rw [cv];exact af HB.out);have cE:=aa.mk bJ;have iG:aa (gs≠gd):=⟨by rw [cv];exact (dJ cM).out⟩;have ah:=cP;replace HB:=mB HB ah;replace bY:=mR bY ah;replace cM:=mX cM ah;clear ah;clear cv bJ cP))
 go_wp2_with fail
 refine (kZ.calls mt mc ms mr yx yy mb 1 _ (Kd.av bY.out).2.2 (Kd.av bY.out).2.1 rfl).mono ?_;rintro ev w3 ⟨rfl,hb⟩;have ah:=hb;replace HB:=mB HB ah;replace bY:=mR bY ah;replace cM:=mX cM ah;replace cE:=mX cE ah;clear ah;clear hb
 (try dsimp only)
 go_upto_region 4 with (((refine eu rfl rfl rfl rfl rfl ja.out rfl (by simp [Value.oneCell']) ?_);intro fB gH cO))
 revert fB gH cO;intro w4 gH cO;have bR:aa (w4.heap[w3.heap.size]?=some (.cells #[.int .u8 mt,.int .u8 mc,.int .u16 ms,.int .u32 mr,.slice yx mb.length yy] 101 (0,0))):=⟨gH⟩
 have lR:=wN HB;have ah:=cO;replace HB:=mB HB ah;replace bY:=mR bY ah;replace cM:=mX cM ah;replace cE:=mX cE ah;clear ah;clear gH cO;generalize w3.heap.size=gu at bR lR|-
 have H:=HG.out;clear HG;obtain ⟨ec,Xt,H⟩:=bV H;have HG:=aa.mk H;clear H
 (try dsimp only)
 go_wp2_with (refine Kd.bL rfl (br rfl rfl bR.out Try.underlying101 rfl ja.out) ?_)
 refine (kL.calls mt mc ms mr yx yy mb ec _ (Kd.av bY.out).2.2 (Kd.av bY.out).2.1 Xt).mono ?_;rintro ev w5 ⟨rfl,hb⟩;clear Xt;have ah:=hb;replace HB:=mB HB ah;replace bY:=mR bY ah;replace cM:=mX cM ah;replace cE:=mX cE ah;replace bR:=mX bR ah;clear ah;clear hb;have H:=HG.out;clear HG
 cases ec with
 |false=>
  rw [ax (by decide)] at H
  (try dsimp only)
  obtain ⟨s,hs,H⟩:=bV H;have HG:=aa.mk H;clear H
  go_wp2_with (refine Kd.bL rfl (br rfl rfl bR.out Try.underlying101 rfl ja.out) ?_)
  refine (qY.calls k mt mc ms mr yx yy mb s _ (Kd.av bY.out).2.2 (Kd.av bY.out).2.1 hs).mono ?_;rintro ev w6 ⟨rfl,hb⟩;clear hs;have ah:=hb;replace HB:=mB HB ah;replace bY:=mR bY ah;replace cM:=mX cM ah;replace cE:=mX cE ah;replace bR:=mX bR ah;clear ah;clear hb
  (try dsimp only)
  go_upto_region 7 with (((refine gQ rfl rfl (i:=2) (v:= .int .u16 s) (cs':= #[.int .u8 mt,.int .u8 mc,.int .u16 s,.int .u32 mr,.slice yx mb.length yy]) bR.out rfl ?fq ?_);(case fq=>(have m_:=(aE bR.out 2).trans (rfl:_=some (.int .u16 ms:Value)));(have nY:=ae bR.out 2);first|(go_simp;done)|(go_simp;rfl));intro w7 hs_ ag;replace bY:=oR ag bY bR (by decide);replace cM:=oX ag cM bR (by decide);replace cE:=oX ag cE bR (by decide);replace HB:=oB ag HB lR;clear ag;replace bR:=aa.mk hs_;clear hs_))
  have H:=HG.out;clear HG;obtain ⟨⟨rz,re⟩,hz,H⟩:=bV H;obtain rfl:=cS H
  (try dsimp only)
  go_wp2_with (refine Kd.bL rfl (br rfl rfl bR.out Try.underlying101 rfl ja.out) ?_)
  refine (iF.calls mt mc s mr yx yy mb rz re _ (Kd.av bY.out).2.2 (Kd.av bY.out).2.1 hz).mono ?_;rintro ev w8 ⟨vz,rfl,ho,hb⟩;clear hz;have Gr:=lD ho HB;clear ho;have ah:=hb;replace HB:=mB HB ah;replace bY:=mR bY ah;replace cM:=mX cM ah;replace cE:=mX cE ah;replace bR:=mX bR ah;clear ah;clear hb
  (try dsimp only)
  go_wp2
  (try simp only [Exit.inBlock,Exit.then])
  go_ret
  exact ⟨_,rfl,Gr.out,HB.out⟩
 |true=>
  rw [au rfl] at H
  have HG:=aa.mk H;clear H;have AaO:=cz bR.out 3 rfl;have Ep:=cz cM.out 1 rfl
  (try dsimp only)
  go_upto_region 6 with (((refine gQ rfl rfl (i:=3) (v:= .int .u32 (Go.bits .or .u32 (Go.bits .and .u32 mr 65535) (sp % 4294967296*65536 % 4294967296))) (cs':= #[.int .u8 mt,.int .u8 mc,.int .u16 ms,.int .u32 (Go.bits .or .u32 (Go.bits .and .u32 mr 65535) (sp % 4294967296*65536 % 4294967296)),.slice yx mb.length yy]) bR.out rfl ?fq ?_);(case fq=>(have m_:=(aE bR.out 3).trans (rfl:_=some (.int .u32 mr:Value)));(have nY:=ae bR.out 3);first|(go_simp;done)|(go_simp;rfl));intro w6 hs_ ag;replace bY:=oR ag bY bR (by decide);replace cM:=oX ag cM bR (by decide);replace cE:=oX ag cE bR (by decide);replace HB:=oB ag HB lR;clear ag;replace bR:=aa.mk hs_;clear hs_))
  clear AaO Ep;have H:=HG.out;clear HG;obtain ⟨s,hs,H⟩:=bV H;have HG:=aa.mk H;clear H
  go_wp2_with (refine Kd.bL rfl (br rfl rfl bR.out Try.underlying101 rfl ja.out) ?_)
  refine (qY.calls k mt mc ms (Go.bits .or .u32 (Go.bits .and .u32 mr 65535) (sp % 4294967296*65536 % 4294967296)) yx yy mb s _ (Kd.av bY.out).2.2 (Kd.av bY.out).2.1 hs).mono ?_;rintro ev w7 ⟨rfl,hb⟩;clear hs;have ah:=hb;replace HB:=mB HB ah;replace bY:=mR bY ah;replace cM:=mX cM ah;replace cE:=mX cE ah;replace bR:=mX bR ah;clear ah;clear hb
  (try dsimp only)
  go_upto_region 7 with (((refine gQ rfl rfl (i:=2) (v:= .int .u16 s) (cs':= #[.int .u8 mt,.int .u8 mc,.int .u16 s,.int .u32 (Go.bits .or .u32 (Go.bits .and .u32 mr 65535) (sp % 4294967296*65536 % 4294967296)),.slice yx mb.length yy]) bR.out rfl ?fq ?_);(case fq=>(have m_:=(aE bR.out 2).trans (rfl:_=some (.int .u16 ms:Value)));(have nY:=ae bR.out 2);first|(go_simp;done)|(go_simp;rfl));intro w8 hs_ ag;replace bY:=oR ag bY bR (by decide);replace cM:=oX ag cM bR (by decide);replace cE:=oX ag cE bR (by decide);replace HB:=oB ag HB lR;clear ag;replace bR:=aa.mk hs_;clear hs_))
  have H:=HG.out;clear HG;obtain ⟨⟨rz,re⟩,hz,H⟩:=bV H;obtain rfl:=cS H
  (try dsimp only)
  go_wp2_with (refine Kd.bL rfl (br rfl rfl bR.out Try.underlying101 rfl ja.out) ?_)
  refine (iF.calls mt mc s (Go.bits .or .u32 (Go.bits .and .u32 mr 65535) (sp % 4294967296*65536 % 4294967296)) yx yy mb rz re _ (Kd.av bY.out).2.2 (Kd.av bY.out).2.1 hz).mono ?_;rintro ev w9 ⟨vz,rfl,ho,hb⟩;clear hz;have Gr:=lD ho HB;clear ho;have ah:=hb;replace HB:=mB HB ah;replace bY:=mR bY ah;replace cM:=mX cM ah;replace cE:=mX cE ah;replace bR:=mX bR ah;clear ah;clear hb
  (try dsimp only)
  go_wp2
  (try simp only [Exit.inBlock,Exit.then])
  go_ret
  exact ⟨_,rfl,Gr.out,HB.out⟩
attribute [local go_sem] ot
attribute [local go_sem] ou
attribute [local go_sem] ow
attribute [local go_sem] ox
attribute [local go_sem] oy
attribute [local go_sem] oA
attribute [local go_sem] oC
attribute [local go_sem] oD
attribute [local go_sem] oE
attribute [local go_sem] oF
attribute [local go_sem] oG
attribute [local go_sem] oH
theorem look.AaP (k:Nat) (A:Option Addr) (c:Nat) (l:List Int) (a t i fl dM s d:Int) (o b:List Int) (r:LK) (w:World) (hC:Kd.C (Kd.int .u8) w A l.length l) (hL:l.length<=c) (hP:cX.f k l=some (a,t,17,i,fl,dM,s,d,o,b,0)) (h:vJ k a t i fl dM s d o b=some r):
  Calls Try.prog 69 #[.slice A l.length c] w fun e w'=>r.Post w.heap.size w e w':=by
 have jb:=Try.underlying73;have nn:=Try.underlying76;have wB:=Try.underlying83;have qU:=Try.underlying137;have ny:=Try.underlying101;have CW:=Try.underlying179;have C0:=Try.underlying181;have C4:=Try.underlying183;have HB:=gj w;have HC:=aa.mk hC;have HL:=aa.mk hL;have HP:=aa.mk hP;have HF:=aa.mk h;have eI:aa ((Try.prog.info? 73).map (·.size)=some 10):=⟨by kernel_rfl⟩
 have iN:aa ((Try.prog.info? 76).map (·.size)=some 7):=⟨by kernel_rfl⟩
 have qB:aa ((Try.prog.info? 83).map (·.size)=some 4):=⟨by kernel_rfl⟩
 have jT:aa ((Try.prog.info? 137).map (·.size)=some 10):=⟨by kernel_rfl⟩
 have ja:aa ((Try.prog.info? 101).map (·.size)=some 5):=⟨by kernel_rfl⟩
 have EW:aa ((Try.prog.info? 179).map (·.size)=some 4):=⟨by kernel_rfl⟩
 have EX:aa ((Try.prog.info? 181).map (·.size)=some 10):=⟨by kernel_rfl⟩
 have Jd:aa ((Try.prog.info? 183).map (·.size)=some 5):=⟨by kernel_rfl⟩
 clear hC hL hP h
 go_enter Try.func69,Try.ntmps69
 go_upto_region 2 with (first|((with_reducible refine aA (N:=2) rfl ?_);refine aC ?gJ (N:=2) ?iS (cs:= #[.int .u8 0,.int .u8 0,.int .u8 0,.int .u16 0,.int .u8 0,.int .u16 0,.int .u32 0,.int .u32 0,.slice none 0 0,.slice none 0 0]) (t:=73) ?fq ?_;(case iS=>rfl);(case gJ=>rfl);(case fq=>first|(go_simp;done)|(go_simp;rfl));intro gi cv w1 bJ cP;have ld:=aa.mk (show w.heap.size<=gi by rw [cv];exact af HB.out);have bg:=aa.mk bJ;have ah:=cP;replace HB:=mB HB ah;clear ah;clear cv bJ cP)|((with_reducible refine aA (N:=4) rfl ?_);refine aC ?gJ (N:=4) ?iS (cs:= #[.int .u8 0,.int .u32 0,.int .u16 0,.int .u32 0,.int .u16 0,.int .u8 0,.slice none 0 0]) (t:=76) ?fq ?_;(case iS=>rfl);(case gJ=>rfl);(case fq=>first|(go_simp;done)|(go_simp;rfl));intro gq cv w2 bJ cP;have mT:=aa.mk (show w.heap.size<=gq by rw [cv];exact af HB.out);have bu:=aa.mk bJ;have ah:=cP;replace HB:=mB HB ah;replace bg:=mX bg ah;clear ah;clear cv bJ cP)|((refine eu rfl rfl rfl rfl rfl iN.out rfl (by simp [Value.oneCell']) ?_);intro fB gH cO))
 revert fB gH cO;intro w3 gH cO;have cB:aa (w3.heap[w2.heap.size]?=some (.cells #[.int .u8 0,.int .u32 0,.int .u16 0,.int .u32 0,.int .u16 0,.int .u8 0,.slice none 0 0] 76 (0,0))):=⟨gH⟩
 have BA:=wN HB;have fN:=dJ bu;have ah:=cO;replace HB:=mB HB ah;replace bg:=mX bg ah;replace bu:=mX bu ah;clear ah;clear gH cO;generalize w2.heap.size=gn at cB BA fN|-
 go_wp2_with fail
 refine (cX.calls k A c l a t 17 i fl dM s d o b 0 _ (Kd.aU HC.out HB.out) HL.out HP.out).mono ?_;rintro ev w4 ⟨vo,vb,rfl,ho,qn,hb⟩;have bQ:=lD ho HB;obtain ⟨Ao,co,rfl,_,_⟩:=Kd.bW ho;clear ho;have bC:=lD qn HB;obtain ⟨Ab,cb,rfl,_,_⟩:=Kd.bW qn;clear qn;have ah:=hb;replace HB:=mB HB ah;replace bg:=mX bg ah;replace bu:=mX bu ah;replace cB:=mX cB ah;clear ah;clear hb HP HC HL
 (try dsimp only)
 go_upto_region 3 with (((refine eu rfl rfl rfl rfl rfl eI.out rfl (by simp [Value.oneCell']) ?_);intro fB gH cO))
 revert fB gH cO;intro w5 gH cO;have aT:aa (w5.heap[w4.heap.size]?=some (.cells #[.int .u8 a,.int .u8 t,.int .u8 17,.int .u16 i,.int .u8 fl,.int .u16 dM,.int .u32 s,.int .u32 d,.slice Ao o.length co,.slice Ab b.length cb] 73 (0,0))):=⟨gH⟩
 have lE:=wN HB;have cD:=dJ bg;have ah:=cO;replace HB:=mB HB ah;replace bg:=mX bg ah;replace bu:=mX bu ah;replace cB:=mX cB ah;replace bQ:=mR bQ ah;replace bC:=mR bC ah;clear ah;clear gH cO;generalize w4.heap.size=gp at aT lE cD|-
 have H:vJ k a t i fl dM s d o b=some r:=HF.out;clear HF;unfold vJ at H
 obtain ⟨⟨us,ud,uc,ub,e2⟩,hp,H⟩:=bV H;dsimp only at H
 have HG:=aa.mk H;clear H;have Uy:((0:Int)==0)=true:=rfl;have he2:((0:Int) !=0)=false:=rfl
 (try dsimp only)
 go_wp2_with (refine Kd.bL rfl (br rfl rfl aT.out Try.underlying73 rfl eI.out) ?_)
 clear Uy he2;refine (oZ.Zs a t i fl dM s d Ao o.length co Ab cb b us ud uc e2 ub _ (Kd.av bC.out).2.2 (Kd.av bC.out).2.1 hp).mono ?_;rintro ev w6 ⟨vub,rfl,Oi,hb⟩;clear hp;have dS:=lD Oi HB;obtain ⟨De,Df,rfl,_,_⟩:=Kd.bW Oi;clear Oi;have ah:=hb;replace HB:=mB HB ah;replace bg:=mX bg ah;replace bu:=mX bu ah;replace cB:=mX cB ah;replace bQ:=mR bQ ah;replace bC:=mR bC ah;replace aT:=mX aT ah;clear ah;clear hb;have H:=HG.out;clear HG
 by_cases ce:e2=0
 ·have Bl:(e2==0)=true:=fH ce
  have Je:(e2 !=0)=false:=by rw [bne,Bl];rfl
  rw [au ce] at H
  clear ce;obtain ⟨rt,hr,H⟩:=bV H;have HG:=aa.mk H;clear H
  (try dsimp only)
  go_wp2_with (refine Kd.bL rfl (br rfl rfl aT.out Try.underlying73 rfl eI.out) ?_)
  refine (ku.calls k us ud uc De Df ub a t 17 i fl dM s d Ao co o Ab cb b rt _ (Kd.av dS.out).2.2 (Kd.av dS.out).2.1 (Kd.av bQ.out).2.2 (Kd.av bQ.out).2.1 (Kd.av bC.out).2.2 (Kd.av bC.out).2.1 (by unfold ku.f;rw [hr];rfl)).mono ?_;rintro ev w7 ⟨rfl,hb⟩;clear hr;have ah:=hb;replace HB:=mB HB ah;replace bg:=mX bg ah;replace bu:=mX bu ah;replace cB:=mX cB ah;replace bQ:=mR bQ ah;replace bC:=mR bC ah;replace aT:=mX aT ah;replace dS:=mR dS ah;clear ah;clear hb;have H:=HG.out;clear HG
  cases rt with
  |false=>
   rw [ax (by decide)] at H
   obtain rfl:=cS H
   (try dsimp only)
   go_upto_region 9 with (fail)
   refine dg (n:=6) (S:=fun w'=>w'.heap[gn]?=some (.cells #[.int .u8 0,.int .u32 0,.int .u16 0,.int .u32 0,.int .u16 0,.int .u8 0,.slice none 0 0] 76 (0,0))) (ds:=[]) #[false,false,false,false,false,false] (by kernel_rfl) rfl rfl cB.out (fun hHeld=> ?_);refine bH look.R9.tab look.R9.bits (fun az dW=> ?_);have ah:=bf (Below.refl w7.heap.size w7);replace HB:=mB HB ah;replace bg:=mX bg ah;replace bu:=mX bu ah;replace cB:=mX cB ah;replace bQ:=mR bQ ah;replace bC:=mR bC ah;replace aT:=mX aT ah;replace dS:=mR dS ah;clear ah;generalize w7.drew=w8 at HB bg bu cB bQ bC aT dS hHeld|-
   refine pz 0 41 az ?_;refine tv 1 42 (.agg #[.int .u8 0,.int .u32 0,.int .u16 0,.int .u32 0,.int .u16 0,.int .u8 0,.slice none 0 0]) az dW hHeld ?_ ?_
   ·intro w' s0
    exact br (p:= .tmp 6) (ty:=76) (by rfl) (by rfl) s0 nn (by rfl) iN.out
   refine nz 42 ?_;refine oz 2 (none) az (fun K hK=> ?_);refine cC (by rfl) (by rfl) rfl rfl rfl bg.out eI.out rfl (by simp [Value.oneCell']) ?_;intro w9 hs_ ag;replace bu:=oX ag bu bg (by decide);replace cB:=oX ag cB bg (by decide);replace bQ:=oR ag bQ bg (by decide);replace bC:=oR ag bC bg (by decide);replace aT:=oN ag aT (bD cD);replace dS:=oR ag dS bg (by decide);replace HB:=oB ag HB ld;clear ag;replace bg:=aa.mk hs_;clear hs_;refine hK.out _ _ cB.out (fun hHeld=> ?_);clear hK K;refine pz 3 3 az ?_;refine oz 4 (none) az (fun K hK=> ?_);refine cC (by rfl) (by rfl) rfl rfl rfl bu.out iN.out rfl (by simp [Value.oneCell']) ?_;intro j4 hs_ ag;replace bg:=oX ag bg bu (by decide);replace cB:=oN ag cB (bD fN)
   replace bQ:=oR ag bQ bu (by decide);replace bC:=oR ag bC bu (by decide);replace aT:=oX ag aT bu (by decide);replace dS:=oR ag dS bu (by decide);replace HB:=oB ag HB mT;clear ag;replace bu:=aa.mk hs_;clear hs_;refine hK.out _ _ cB.out (fun hHeld=> ?_);clear hK K;refine pz 5 5 az ?_;refine dz az ?_;clear az dW hHeld
   (try dsimp only)
   go_wp2
   (try simp only [Exit.inBlock,Exit.then])
   refine bodyPost_ret (ig rfl _ _ _ _ _ _ _ _ (0,0) (0,0) _ _ rfl bg.out jb rfl eI.out rfl bu.out nn rfl iN.out) rfl ?_;exact ⟨_,_,_,_,rfl,Kd.cl _ _ _ _ _,Kd.cl _ _ _ _ _,rfl,Kd.cl _ _ _ _ _,HB.out⟩
  |true=>
   rw [au rfl] at H
   have HG:=aa.mk H;clear H
   (try dsimp only)
   have nl:=cz aT.out 2 rfl;have su:=cz aT.out 6 rfl;have sM:=cz aT.out 7 rfl
   go_upto_region 11 with (((refine eu rfl rfl rfl rfl rfl iN.out rfl (by simp [Value.oneCell']) ?_);intro fB gH cO))
   clear nl su sM;revert fB gH cO;intro w8 gH cO;have bI:aa (w8.heap[w7.heap.size]?=some (.cells #[.int .u8 17,.int .u32 s,.int .u16 0,.int .u32 d,.int .u16 0,.int .u8 0,.slice none 0 0] 76 (0,0))):=⟨gH⟩
   have nJ:=wN HB;have cg:=dJ bu;have jE:=dJ cB;have ah:=cO;replace HB:=mB HB ah;replace bg:=mX bg ah;replace bu:=mX bu ah;replace cB:=mX cB ah;replace bQ:=mR bQ ah;replace bC:=mR bC ah;replace aT:=mX aT ah;replace dS:=mR dS ah;clear ah;clear gH cO;generalize w7.heap.size=gf at bI nJ cg jE|-
   go_wp2_with fail
   refine (kE.calls us ud uc De Df ub 17 _ (Kd.av dS.out).2.2 (Kd.av dS.out).2.1 rfl).mono ?_;rintro ev w9 ⟨rfl,hb⟩;have ah:=hb;replace HB:=mB HB ah;replace bg:=mX bg ah;replace bu:=mX bu ah;replace cB:=mX cB ah;replace bQ:=mR bQ ah;replace bC:=mR bC ah;replace aT:=mX aT ah;replace dS:=mR dS ah;replace bI:=mX bI ah;clear ah;clear hb
   (try dsimp only)
   go_upto_region 21 with (((refine eu rfl rfl rfl rfl rfl EW.out rfl (by simp [Value.oneCell']) ?_);intro fB gH cO))
   revert fB gH cO;intro j4 gH cO;have bR:aa (j4.heap[w9.heap.size]?=some (.cells #[.int .u16 us,.int .u16 ud,.int .u16 uc,.slice De ub.length Df] 179 (0,0))):=⟨gH⟩
   have lR:=wN HB;have ah:=cO;replace HB:=mB HB ah;replace bg:=mX bg ah;replace bu:=mX bu ah;replace cB:=mX cB ah;replace bQ:=mR bQ ah;replace bC:=mR bC ah;replace aT:=mX aT ah;replace dS:=mR dS ah;replace bI:=mX bI ah;clear ah;clear gH cO;generalize w9.heap.size=gu at bR lR|-
   refine dg (n:=12) (S:=fun w'=>w'.cell? ⟨gu,0,none⟩=some (.int .u16 us) /\ w'.cell? ⟨gu,1,none⟩=some (.int .u16 ud)) (ds:=[]) #[false,false,false,false,false,false,false,false,false,false,false,false] (by kernel_rfl) rfl rfl ⟨((aE bR.out 0).trans rfl),((aE bR.out 1).trans rfl)⟩ (fun hHeld=> ?_);refine bH look.R21.tab look.R21.bits (fun az dW=> ?_);have ah:=bf (Below.refl j4.heap.size j4);replace HB:=mB HB ah;replace bg:=mX bg ah;replace bu:=mX bu ah;replace cB:=mX cB ah;replace bQ:=mR bQ ah;replace bC:=mR bC ah;replace aT:=mX aT ah;replace dS:=mR dS ah;replace bI:=mX bI ah;replace bR:=mX bR ah;clear ah;generalize j4.drew=qf at HB bg bu cB bQ bC aT dS bI bR hHeld|-
   refine pz 0 94 az ?_;refine pz 1 95 az ?_;refine pz 3 97 az ?_;refine pz 4 98 az ?_;refine tz 2 96 az dW hHeld ?_;refine pz 6 100 az ?_;refine pz 7 101 az ?_;refine tz 5 99 az dW hHeld ?_;refine oz 8 (none) az (fun K hK=> ?_);refine fK (i:=2) (v:= .int .u16 us) (cs':= #[.int .u8 17,.int .u32 s,.int .u16 us,.int .u32 d,.int .u16 0,.int .u8 0,.slice none 0 0]) (by rfl) (by rfl) bI.out rfl (by (have m_:=(aE bI.out 2).trans (rfl:_=some (.int .u16 0:Value)));(have nY:=ae bI.out 2);first|(go_simp;done)|(go_simp;rfl)) ?_;intro l5 hs_ ag;replace bg:=oX ag bg bI (by decide);replace bu:=oN ag bu cg;replace cB:=oN ag cB jE;replace bQ:=oR ag bQ bI (by decide);replace bC:=oR ag bC bI (by decide);replace aT:=oX ag aT bI (by decide)
   replace dS:=oR ag dS bI (by decide);replace bR:=oX ag bR bI (by decide);replace HB:=oB ag HB nJ;clear ag;replace bI:=aa.mk hs_;clear hs_;refine hK.out _ _ ⟨((aE bR.out 0).trans rfl),((aE bR.out 1).trans rfl)⟩ (fun hHeld=> ?_);clear hK K;refine pz 9 102 az ?_;refine pz 10 103 az ?_;refine oz 11 (none) az (fun K hK=> ?_);refine fK (i:=4) (v:= .int .u16 ud) (cs':= #[.int .u8 17,.int .u32 s,.int .u16 us,.int .u32 d,.int .u16 ud,.int .u8 0,.slice none 0 0]) (by rfl) (by rfl) bI.out rfl (by (have m_:=(aE bI.out 4).trans (rfl:_=some (.int .u16 0:Value)));(have nY:=ae bI.out 4);first|(go_simp;done)|(go_simp;rfl)) ?_;intro sR hs_ ag;replace bg:=oX ag bg bI (by decide);replace bu:=oN ag bu cg;replace cB:=oN ag cB jE
   replace bQ:=oR ag bQ bI (by decide);replace bC:=oR ag bC bI (by decide);replace aT:=oX ag aT bI (by decide);replace dS:=oR ag dS bI (by decide);replace bR:=oX ag bR bI (by decide);replace HB:=oB ag HB nJ;clear ag;replace bI:=aa.mk hs_;clear hs_;refine hK.out _ _ ⟨((aE bR.out 0).trans rfl),((aE bR.out 1).trans rfl)⟩ (fun hHeld=> ?_);clear hK K;refine dz az ?_;clear az dW hHeld;have H:=HG.out;clear HG;obtain rfl:=cS H
   (try dsimp only)
   go_upto_region 25 with (fail)
   refine dg (n:=7) (S:=fun w'=>w'.heap[gp]?=some (.cells #[.int .u8 a,.int .u8 t,.int .u8 17,.int .u16 i,.int .u8 fl,.int .u16 dM,.int .u32 s,.int .u32 d,.slice Ao o.length co,.slice Ab b.length cb] 73 (0,0)) /\ w'.heap[gf]?=some (.cells #[.int .u8 17,.int .u32 s,.int .u16 us,.int .u32 d,.int .u16 ud,.int .u8 0,.slice none 0 0] 76 (0,0))) (ds:=[]) #[false,false,false,false,false,false,false] (by kernel_rfl) rfl rfl ⟨aT.out,bI.out⟩ (fun hHeld=> ?_);refine bH look.Pc.tab look.Pc.bits (fun az dW=> ?_);have ah:=bf (Below.refl sR.heap.size sR);replace HB:=mB HB ah;replace bg:=mX bg ah;replace bu:=mX bu ah;replace cB:=mX cB ah;replace bQ:=mR bQ ah;replace bC:=mR bC ah;replace aT:=mX aT ah;replace dS:=mR dS ah;replace bI:=mX bI ah;replace bR:=mX bR ah;clear ah
   generalize sR.drew=qN at HB bg bu cB bQ bC aT dS bI bR hHeld|-
   refine pz 1 123 az ?_;refine tv 0 122 (.agg #[.int .u8 a,.int .u8 t,.int .u8 17,.int .u16 i,.int .u8 fl,.int .u16 dM,.int .u32 s,.int .u32 d,.slice Ao o.length co,.slice Ab b.length cb]) az dW hHeld ?_ ?_
   ·intro w' s0
    obtain ⟨s0,s1⟩:=s0;exact br (p:= .tmp 7) (ty:=73) (by rfl) (by rfl) s0 jb (by rfl) eI.out
   refine nz 122 ?_;refine tv 2 124 (.agg #[.int .u8 17,.int .u32 s,.int .u16 us,.int .u32 d,.int .u16 ud,.int .u8 0,.slice none 0 0]) az dW hHeld ?_ ?_
   ·intro w' s0
    obtain ⟨s0,s1⟩:=s0;exact br (p:= .tmp 10) (ty:=76) (by rfl) (by rfl) s1 nn (by rfl) iN.out
   refine nz 124 ?_;refine oz 3 (none) az (fun K hK=> ?_);refine cC (by rfl) (by rfl) rfl rfl rfl bg.out eI.out rfl (by simp [Value.oneCell']) ?_;intro yE hs_ ag;replace bu:=oX ag bu bg (by decide);replace cB:=oX ag cB bg (by decide);replace bQ:=oR ag bQ bg (by decide);replace bC:=oR ag bC bg (by decide);replace aT:=oN ag aT (bD cD);replace dS:=oR ag dS bg (by decide);replace bI:=oX ag bI bg (by decide);replace bR:=oX ag bR bg (by decide);replace HB:=oB ag HB ld;clear ag;replace bg:=aa.mk hs_;clear hs_;refine hK.out _ _ ⟨aT.out,bI.out⟩ (fun hHeld=> ?_);clear hK K;refine pz 4 3 az ?_;refine oz 5 (none) az (fun K hK=> ?_);refine cC (by rfl) (by rfl) rfl rfl rfl bu.out iN.out rfl (by simp [Value.oneCell']) ?_;intro qM hs_ ag
   replace bg:=oX ag bg bu (by decide);replace cB:=oN ag cB (bD fN);replace bQ:=oR ag bQ bu (by decide);replace bC:=oR ag bC bu (by decide);replace aT:=oX ag aT bu (by decide);replace dS:=oR ag dS bu (by decide);replace bI:=oN ag bI (bD cg);replace bR:=oX ag bR bu (by decide);replace HB:=oB ag HB mT;clear ag;replace bu:=aa.mk hs_;clear hs_;refine hK.out _ _ ⟨aT.out,bI.out⟩ (fun hHeld=> ?_);clear hK K;refine pz 6 5 az ?_;refine dz az ?_;clear az dW hHeld
   (try dsimp only)
   go_wp2
   (try simp only [Exit.inBlock,Exit.then])
   refine bodyPost_ret (ig rfl _ _ _ _ _ _ _ _ (0,0) (0,0) _ _ rfl bg.out jb rfl eI.out rfl bu.out nn rfl iN.out) rfl ?_;exact ⟨_,_,_,_,rfl,bQ.out,bC.out,⟨_,rfl,dS.out⟩,Kd.cl _ _ _ _ _,HB.out⟩
 ·have Bl:(e2==0)=false:=fc ce
  have Je:(e2 !=0)=true:=bne_iff_ne.2 ce;rw [ax ce] at H
  clear ce;obtain rfl:=cS H
  (try dsimp only)
  go_upto_region 7 with (fail)
  refine dg (n:=7) (S:=fun w'=>w'.heap[gn]?=some (.cells #[.int .u8 0,.int .u32 0,.int .u16 0,.int .u32 0,.int .u16 0,.int .u8 0,.slice none 0 0] 76 (0,0))) (ds:=[]) #[false,false,false,false,false,false,false] (by kernel_rfl) rfl rfl cB.out (fun hHeld=> ?_);refine bH look.R7.tab look.R7.bits (fun az dW=> ?_);have ah:=bf (Below.refl w6.heap.size w6);replace HB:=mB HB ah;replace bg:=mX bg ah;replace bu:=mX bu ah;replace cB:=mX cB ah;replace bQ:=mR bQ ah;replace bC:=mR bC ah;replace aT:=mX aT ah;replace dS:=mR dS ah;clear ah;generalize w6.drew=w7 at HB bg bu cB bQ bC aT dS hHeld|-
  refine pz 0 34 az ?_;refine pz 2 36 az ?_;refine tv 1 35 (.agg #[.int .u8 0,.int .u32 0,.int .u16 0,.int .u32 0,.int .u16 0,.int .u8 0,.slice none 0 0]) az dW hHeld ?_ ?_
  ·intro w' s0
   exact br (p:= .tmp 6) (ty:=76) (by rfl) (by rfl) s0 nn (by rfl) iN.out
  refine nz 35 ?_;refine oz 3 (none) az (fun K hK=> ?_);refine cC (by rfl) (by rfl) rfl rfl rfl bg.out eI.out rfl (by simp [Value.oneCell']) ?_;intro w8 hs_ ag;replace bu:=oX ag bu bg (by decide);replace cB:=oX ag cB bg (by decide);replace bQ:=oR ag bQ bg (by decide);replace bC:=oR ag bC bg (by decide);replace aT:=oN ag aT (bD cD);replace dS:=oR ag dS bg (by decide);replace HB:=oB ag HB ld;clear ag;replace bg:=aa.mk hs_;clear hs_;refine hK.out _ _ cB.out (fun hHeld=> ?_);clear hK K;refine pz 4 3 az ?_;refine oz 5 (none) az (fun K hK=> ?_);refine cC (by rfl) (by rfl) rfl rfl rfl bu.out iN.out rfl (by simp [Value.oneCell']) ?_;intro w9 hs_ ag;replace bg:=oX ag bg bu (by decide);replace cB:=oN ag cB (bD fN)
  replace bQ:=oR ag bQ bu (by decide);replace bC:=oR ag bC bu (by decide);replace aT:=oX ag aT bu (by decide);replace dS:=oR ag dS bu (by decide);replace HB:=oB ag HB mT;clear ag;replace bu:=aa.mk hs_;clear hs_;refine hK.out _ _ cB.out (fun hHeld=> ?_);clear hK K;refine pz 6 5 az ?_;refine dz az ?_;clear az dW hHeld
  (try dsimp only)
  go_wp2
  (try simp only [Exit.inBlock,Exit.then])
  refine bodyPost_ret (ig rfl _ _ _ _ _ _ _ _ (0,0) (0,0) _ _ rfl bg.out jb rfl eI.out rfl bu.out nn rfl iN.out) rfl ?_;exact ⟨_,_,_,_,rfl,Kd.cl _ _ _ _ _,Kd.cl _ _ _ _ _,rfl,Kd.cl _ _ _ _ _,HB.out⟩
attribute [local go_sem] ot
attribute [local go_sem] ou
attribute [local go_sem] ow
attribute [local go_sem] ox
attribute [local go_sem] oy
attribute [local go_sem] oA
attribute [local go_sem] oC
attribute [local go_sem] oD
attribute [local go_sem] oE
attribute [local go_sem] oF
attribute [local go_sem] oG
attribute [local go_sem] oH
theorem look.AaQ (k:Nat) (A:Option Addr) (c:Nat) (l:List Int) (a t i fl dM s d:Int) (o b:List Int) (r:LK) (w:World) (hC:Kd.C (Kd.int .u8) w A l.length l) (hL:l.length<=c) (hP:cX.f k l=some (a,t,6,i,fl,dM,s,d,o,b,0)) (h:vK k a t i fl dM s d o b=some r):
  Calls Try.prog 69 #[.slice A l.length c] w fun e w'=>r.Post w.heap.size w e w':=by
 have jb:=Try.underlying73;have nn:=Try.underlying76;have wB:=Try.underlying83;have qU:=Try.underlying137;have ny:=Try.underlying101;have CW:=Try.underlying179;have C0:=Try.underlying181;have C4:=Try.underlying183;have HB:=gj w;have HC:=aa.mk hC;have HL:=aa.mk hL;have HP:=aa.mk hP;have HF:=aa.mk h;have eI:aa ((Try.prog.info? 73).map (·.size)=some 10):=⟨by kernel_rfl⟩
 have iN:aa ((Try.prog.info? 76).map (·.size)=some 7):=⟨by kernel_rfl⟩
 have qB:aa ((Try.prog.info? 83).map (·.size)=some 4):=⟨by kernel_rfl⟩
 have jT:aa ((Try.prog.info? 137).map (·.size)=some 10):=⟨by kernel_rfl⟩
 have ja:aa ((Try.prog.info? 101).map (·.size)=some 5):=⟨by kernel_rfl⟩
 have EW:aa ((Try.prog.info? 179).map (·.size)=some 4):=⟨by kernel_rfl⟩
 have EX:aa ((Try.prog.info? 181).map (·.size)=some 10):=⟨by kernel_rfl⟩
 have Jd:aa ((Try.prog.info? 183).map (·.size)=some 5):=⟨by kernel_rfl⟩
 clear hC hL hP h
 go_enter Try.func69,Try.ntmps69
 go_upto_region 2 with (first|((with_reducible refine aA (N:=2) rfl ?_);refine aC ?gJ (N:=2) ?iS (cs:= #[.int .u8 0,.int .u8 0,.int .u8 0,.int .u16 0,.int .u8 0,.int .u16 0,.int .u32 0,.int .u32 0,.slice none 0 0,.slice none 0 0]) (t:=73) ?fq ?_;(case iS=>rfl);(case gJ=>rfl);(case fq=>first|(go_simp;done)|(go_simp;rfl));intro gi cv w1 bJ cP;have ld:=aa.mk (show w.heap.size<=gi by rw [cv];exact af HB.out);have bg:=aa.mk bJ;have ah:=cP;replace HB:=mB HB ah;clear ah;clear cv bJ cP)|((with_reducible refine aA (N:=4) rfl ?_);refine aC ?gJ (N:=4) ?iS (cs:= #[.int .u8 0,.int .u32 0,.int .u16 0,.int .u32 0,.int .u16 0,.int .u8 0,.slice none 0 0]) (t:=76) ?fq ?_;(case iS=>rfl);(case gJ=>rfl);(case fq=>first|(go_simp;done)|(go_simp;rfl));intro gq cv w2 bJ cP;have mT:=aa.mk (show w.heap.size<=gq by rw [cv];exact af HB.out);have bu:=aa.mk bJ;have ah:=cP;replace HB:=mB HB ah;replace bg:=mX bg ah;clear ah;clear cv bJ cP)|((refine eu rfl rfl rfl rfl rfl iN.out rfl (by simp [Value.oneCell']) ?_);intro fB gH cO))
 revert fB gH cO;intro w3 gH cO;have cB:aa (w3.heap[w2.heap.size]?=some (.cells #[.int .u8 0,.int .u32 0,.int .u16 0,.int .u32 0,.int .u16 0,.int .u8 0,.slice none 0 0] 76 (0,0))):=⟨gH⟩
 have BA:=wN HB;have fN:=dJ bu;have ah:=cO;replace HB:=mB HB ah;replace bg:=mX bg ah;replace bu:=mX bu ah;clear ah;clear gH cO;generalize w2.heap.size=gn at cB BA fN|-
 go_wp2_with fail
 refine (cX.calls k A c l a t 6 i fl dM s d o b 0 _ (Kd.aU HC.out HB.out) HL.out HP.out).mono ?_;rintro ev w4 ⟨vo,vb,rfl,ho,qn,hb⟩;have bQ:=lD ho HB;obtain ⟨Ao,co,rfl,_,_⟩:=Kd.bW ho;clear ho;have bC:=lD qn HB;obtain ⟨Ab,cb,rfl,_,_⟩:=Kd.bW qn;clear qn;have ah:=hb;replace HB:=mB HB ah;replace bg:=mX bg ah;replace bu:=mX bu ah;replace cB:=mX cB ah;clear ah;clear hb HP HC HL
 (try dsimp only)
 go_upto_region 3 with (((refine eu rfl rfl rfl rfl rfl eI.out rfl (by simp [Value.oneCell']) ?_);intro fB gH cO))
 revert fB gH cO;intro w5 gH cO;have aT:aa (w5.heap[w4.heap.size]?=some (.cells #[.int .u8 a,.int .u8 t,.int .u8 6,.int .u16 i,.int .u8 fl,.int .u16 dM,.int .u32 s,.int .u32 d,.slice Ao o.length co,.slice Ab b.length cb] 73 (0,0))):=⟨gH⟩
 have lE:=wN HB;have cD:=dJ bg;have ah:=cO;replace HB:=mB HB ah;replace bg:=mX bg ah;replace bu:=mX bu ah;replace cB:=mX cB ah;replace bQ:=mR bQ ah;replace bC:=mR bC ah;clear ah;clear gH cO;generalize w4.heap.size=gp at aT lE cD|-
 have H:vK k a t i fl dM s d o b=some r:=HF.out;clear HF;unfold vK at H
 obtain ⟨⟨ts,td,tq,ta,tf,tw,tc,tu,nf,tb,e2⟩,hp,H⟩:=bV H;dsimp only at H
 have HG:=aa.mk H;clear H;have Uy:((0:Int)==0)=true:=rfl;have he2:((0:Int) !=0)=false:=rfl
 (try dsimp only)
 go_wp2_with (refine Kd.bL rfl (br rfl rfl aT.out Try.underlying73 rfl eI.out) ?_)
 clear Uy he2;refine (oZ.Zt a t i fl dM s d Ao o.length co Ab cb b ts td tq ta tf tw tc tu e2 nf tb _ (Kd.av bC.out).2.2 (Kd.av bC.out).2.1 hp).mono ?_;rintro ev w6 ⟨Uz,vtb,rfl,Dg,htb,hb⟩;clear hp;have cF:=lD Dg HB;obtain ⟨uj,uk,rfl,_,_⟩:=Kd.bW Dg;clear Dg;have ep:=lD htb HB;obtain ⟨Er,Es,rfl,_,_⟩:=Kd.bW htb;clear htb;have ah:=hb;replace HB:=mB HB ah;replace bg:=mX bg ah;replace bu:=mX bu ah;replace cB:=mX cB ah;replace bQ:=mR bQ ah;replace bC:=mR bC ah;replace aT:=mX aT ah;clear ah;clear hb;have H:=HG.out;clear HG
 by_cases ce:e2=0
 ·have Bl:(e2==0)=true:=fH ce
  have Je:(e2 !=0)=false:=by rw [bne,Bl];rfl
  rw [au ce] at H
  clear ce;obtain ⟨rt,hr,H⟩:=bV H;have HG:=aa.mk H;clear H
  (try dsimp only)
  go_wp2_with (refine Kd.bL rfl (br rfl rfl aT.out Try.underlying73 rfl eI.out) ?_)
  refine (kW.calls k ts td tq ta tf tw tc tu uj uk nf Er Es tb a t 6 i fl dM s d Ao co o Ab cb b rt _ (Kd.av cF.out).2.2 (Kd.av cF.out).2.1 (Kd.av ep.out).2.2 (Kd.av ep.out).2.1 (Kd.av bQ.out).2.2 (Kd.av bQ.out).2.1 (Kd.av bC.out).2.2 (Kd.av bC.out).2.1 (by unfold kW.f;rw [hr];rfl)).mono ?_;rintro ev w7 ⟨rfl,hb⟩;clear hr;have ah:=hb;replace HB:=mB HB ah;replace bg:=mX bg ah;replace bu:=mX bu ah;replace cB:=mX cB ah;replace bQ:=mR bQ ah;replace bC:=mR bC ah;replace aT:=mX aT ah;replace cF:=mR cF ah;replace ep:=mR ep ah;clear ah;clear hb;have H:=HG.out;clear HG
  cases rt with
  |false=>
   rw [ax (by decide)] at H
   obtain rfl:=cS H
   (try dsimp only)
   go_upto_region 9 with (fail)
   refine dg (n:=6) (S:=fun w'=>w'.heap[gn]?=some (.cells #[.int .u8 0,.int .u32 0,.int .u16 0,.int .u32 0,.int .u16 0,.int .u8 0,.slice none 0 0] 76 (0,0))) (ds:=[]) #[false,false,false,false,false,false] (by kernel_rfl) rfl rfl cB.out (fun hHeld=> ?_);refine bH look.R9.tab look.R9.bits (fun az dW=> ?_);have ah:=bf (Below.refl w7.heap.size w7);replace HB:=mB HB ah;replace bg:=mX bg ah;replace bu:=mX bu ah;replace cB:=mX cB ah;replace bQ:=mR bQ ah;replace bC:=mR bC ah;replace aT:=mX aT ah;replace cF:=mR cF ah;replace ep:=mR ep ah;clear ah;generalize w7.drew=w8 at HB bg bu cB bQ bC aT cF ep hHeld|-
   refine pz 0 41 az ?_;refine tv 1 42 (.agg #[.int .u8 0,.int .u32 0,.int .u16 0,.int .u32 0,.int .u16 0,.int .u8 0,.slice none 0 0]) az dW hHeld ?_ ?_
   ·intro w' s0
    exact br (p:= .tmp 6) (ty:=76) (by rfl) (by rfl) s0 nn (by rfl) iN.out
   refine nz 42 ?_;refine oz 2 (none) az (fun K hK=> ?_);refine cC (by rfl) (by rfl) rfl rfl rfl bg.out eI.out rfl (by simp [Value.oneCell']) ?_;intro w9 hs_ ag;replace bu:=oX ag bu bg (by decide);replace cB:=oX ag cB bg (by decide);replace bQ:=oR ag bQ bg (by decide);replace bC:=oR ag bC bg (by decide);replace aT:=oN ag aT (bD cD);replace cF:=oR ag cF bg (by decide);replace ep:=oR ag ep bg (by decide);replace HB:=oB ag HB ld;clear ag;replace bg:=aa.mk hs_;clear hs_;refine hK.out _ _ cB.out (fun hHeld=> ?_);clear hK K;refine pz 3 3 az ?_;refine oz 4 (none) az (fun K hK=> ?_);refine cC (by rfl) (by rfl) rfl rfl rfl bu.out iN.out rfl (by simp [Value.oneCell']) ?_;intro j4 hs_ ag;replace bg:=oX ag bg bu (by decide)
   replace cB:=oN ag cB (bD fN);replace bQ:=oR ag bQ bu (by decide);replace bC:=oR ag bC bu (by decide);replace aT:=oX ag aT bu (by decide);replace cF:=oR ag cF bu (by decide);replace ep:=oR ag ep bu (by decide);replace HB:=oB ag HB mT;clear ag;replace bu:=aa.mk hs_;clear hs_;refine hK.out _ _ cB.out (fun hHeld=> ?_);clear hK K;refine pz 5 5 az ?_;refine dz az ?_;clear az dW hHeld
   (try dsimp only)
   go_wp2
   (try simp only [Exit.inBlock,Exit.then])
   refine bodyPost_ret (ig rfl _ _ _ _ _ _ _ _ (0,0) (0,0) _ _ rfl bg.out jb rfl eI.out rfl bu.out nn rfl iN.out) rfl ?_;exact ⟨_,_,_,_,rfl,Kd.cl _ _ _ _ _,Kd.cl _ _ _ _ _,rfl,Kd.cl _ _ _ _ _,HB.out⟩
  |true=>
   rw [au rfl] at H
   have HG:=aa.mk H;clear H
   (try dsimp only)
   have nl:=cz aT.out 2 rfl;have su:=cz aT.out 6 rfl;have sM:=cz aT.out 7 rfl
   go_upto_region 11 with (((refine eu rfl rfl rfl rfl rfl iN.out rfl (by simp [Value.oneCell']) ?_);intro fB gH cO))
   clear nl su sM;revert fB gH cO;intro w8 gH cO;have bI:aa (w8.heap[w7.heap.size]?=some (.cells #[.int .u8 6,.int .u32 s,.int .u16 0,.int .u32 d,.int .u16 0,.int .u8 0,.slice none 0 0] 76 (0,0))):=⟨gH⟩
   have nJ:=wN HB;have cg:=dJ bu;have jE:=dJ cB;have ah:=cO;replace HB:=mB HB ah;replace bg:=mX bg ah;replace bu:=mX bu ah;replace cB:=mX cB ah;replace bQ:=mR bQ ah;replace bC:=mR bC ah;replace aT:=mX aT ah;replace cF:=mR cF ah;replace ep:=mR ep ah;clear ah;clear gH cO;generalize w7.heap.size=gf at bI nJ cg jE|-
   go_wp2_with fail
   refine (kY.calls ts td tq ta tf tw tc tu uj uk nf Er Es tb 6 _ (Kd.av cF.out).2.2 (Kd.av cF.out).2.1 (Kd.av ep.out).2.2 (Kd.av ep.out).2.1 rfl).mono ?_;rintro ev w9 ⟨rfl,hb⟩;have ah:=hb;replace HB:=mB HB ah;replace bg:=mX bg ah;replace bu:=mX bu ah;replace cB:=mX cB ah;replace bQ:=mR bQ ah;replace bC:=mR bC ah;replace aT:=mX aT ah;replace cF:=mR cF ah;replace ep:=mR ep ah;replace bI:=mX bI ah;clear ah;clear hb
   (try dsimp only)
   go_upto_region 24 with (((refine eu rfl rfl rfl rfl rfl EX.out rfl (by simp [Value.oneCell']) ?_);intro fB gH cO))
   revert fB gH cO;intro j4 gH cO;have bR:aa (j4.heap[w9.heap.size]?=some (.cells #[.int .u16 ts,.int .u16 td,.int .u32 tq,.int .u32 ta,.int .u8 tf,.int .u16 tw,.int .u16 tc,.int .u16 tu,.slice uj nf.length uk,.slice Er tb.length Es] 181 (0,0))):=⟨gH⟩
   have lR:=wN HB;have ah:=cO;replace HB:=mB HB ah;replace bg:=mX bg ah;replace bu:=mX bu ah;replace cB:=mX cB ah;replace bQ:=mR bQ ah;replace bC:=mR bC ah;replace aT:=mX aT ah;replace cF:=mR cF ah;replace ep:=mR ep ah;replace bI:=mX bI ah;clear ah;clear gH cO;generalize w9.heap.size=gu at bR lR|-
   refine dg (n:=17) (S:=fun w'=>w'.cell? ⟨gu,0,none⟩=some (.int .u16 ts) /\ w'.cell? ⟨gu,1,none⟩=some (.int .u16 td) /\ w'.cell? ⟨gu,4,none⟩=some (.int .u8 tf)) (ds:=[]) #[false,false,false,false,false,false,false,false,false,false,false,false,false,false,false,false,false] (by kernel_rfl) rfl rfl ⟨((aE bR.out 0).trans rfl),((aE bR.out 1).trans rfl),((aE bR.out 4).trans rfl)⟩ (fun hHeld=> ?_);refine bH look.R24.tab look.R24.bits (fun az dW=> ?_);have ah:=bf (Below.refl j4.heap.size j4);replace HB:=mB HB ah;replace bg:=mX bg ah;replace bu:=mX bu ah;replace cB:=mX cB ah;replace bQ:=mR bQ ah;replace bC:=mR bC ah;replace aT:=mX aT ah;replace cF:=mR cF ah;replace ep:=mR ep ah;replace bI:=mX bI ah;replace bR:=mX bR ah;clear ah
   generalize j4.drew=qf at HB bg bu cB bQ bC aT cF ep bI bR hHeld|-
   refine pz 0 108 az ?_;refine pz 1 109 az ?_;refine pz 3 111 az ?_;refine pz 4 112 az ?_;refine pz 6 114 az ?_;refine pz 7 115 az ?_;refine tz 2 110 az dW hHeld ?_;refine pz 9 117 az ?_;refine pz 10 118 az ?_;refine tz 5 113 az dW hHeld ?_;refine tz 8 116 az dW hHeld ?_;refine oz 11 (none) az (fun K hK=> ?_);refine fK (i:=2) (v:= .int .u16 ts) (cs':= #[.int .u8 6,.int .u32 s,.int .u16 ts,.int .u32 d,.int .u16 0,.int .u8 0,.slice none 0 0]) (by rfl) (by rfl) bI.out rfl (by (have m_:=(aE bI.out 2).trans (rfl:_=some (.int .u16 0:Value)));(have nY:=ae bI.out 2);first|(go_simp;done)|(go_simp;rfl)) ?_;intro l5 hs_ ag;replace bg:=oX ag bg bI (by decide);replace bu:=oN ag bu cg;replace cB:=oN ag cB jE;replace bQ:=oR ag bQ bI (by decide)
   replace bC:=oR ag bC bI (by decide);replace aT:=oX ag aT bI (by decide);replace cF:=oR ag cF bI (by decide);replace ep:=oR ag ep bI (by decide);replace bR:=oX ag bR bI (by decide);replace HB:=oB ag HB nJ;clear ag;replace bI:=aa.mk hs_;clear hs_;refine hK.out _ _ ⟨((aE bR.out 0).trans rfl),((aE bR.out 1).trans rfl),((aE bR.out 4).trans rfl)⟩ (fun hHeld=> ?_);clear hK K;refine pz 12 119 az ?_;refine pz 13 120 az ?_;refine oz 14 (none) az (fun K hK=> ?_)
   refine fK (i:=4) (v:= .int .u16 td) (cs':= #[.int .u8 6,.int .u32 s,.int .u16 ts,.int .u32 d,.int .u16 td,.int .u8 0,.slice none 0 0]) (by rfl) (by rfl) bI.out rfl (by (have m_:=(aE bI.out 4).trans (rfl:_=some (.int .u16 0:Value)));(have nY:=ae bI.out 4);first|(go_simp;done)|(go_simp;rfl)) ?_;intro sR hs_ ag;replace bg:=oX ag bg bI (by decide);replace bu:=oN ag bu cg;replace cB:=oN ag cB jE;replace bQ:=oR ag bQ bI (by decide);replace bC:=oR ag bC bI (by decide);replace aT:=oX ag aT bI (by decide);replace cF:=oR ag cF bI (by decide);replace ep:=oR ag ep bI (by decide);replace bR:=oX ag bR bI (by decide);replace HB:=oB ag HB nJ;clear ag;replace bI:=aa.mk hs_;clear hs_
   refine hK.out _ _ ⟨((aE bR.out 0).trans rfl),((aE bR.out 1).trans rfl),((aE bR.out 4).trans rfl)⟩ (fun hHeld=> ?_);clear hK K;refine pz 15 121 az ?_;refine oz 16 (none) az (fun K hK=> ?_);refine fK (i:=5) (v:= .int .u8 tf) (cs':= #[.int .u8 6,.int .u32 s,.int .u16 ts,.int .u32 d,.int .u16 td,.int .u8 tf,.slice none 0 0]) (by rfl) (by rfl) bI.out rfl (by (have m_:=(aE bI.out 5).trans (rfl:_=some (.int .u8 0:Value)));(have nY:=ae bI.out 5);first|(go_simp;done)|(go_simp;rfl)) ?_;intro qN hs_ ag;replace bg:=oX ag bg bI (by decide);replace bu:=oN ag bu cg;replace cB:=oN ag cB jE;replace bQ:=oR ag bQ bI (by decide);replace bC:=oR ag bC bI (by decide);replace aT:=oX ag aT bI (by decide);replace cF:=oR ag cF bI (by decide)
   replace ep:=oR ag ep bI (by decide);replace bR:=oX ag bR bI (by decide);replace HB:=oB ag HB nJ;clear ag;replace bI:=aa.mk hs_;clear hs_;refine hK.out _ _ ⟨((aE bR.out 0).trans rfl),((aE bR.out 1).trans rfl),((aE bR.out 4).trans rfl)⟩ (fun hHeld=> ?_);clear hK K;refine dz az ?_;clear az dW hHeld;have H:=HG.out;clear HG;obtain rfl:=cS H
   (try dsimp only)
   go_upto_region 25 with (fail)
   refine dg (n:=7) (S:=fun w'=>w'.heap[gp]?=some (.cells #[.int .u8 a,.int .u8 t,.int .u8 6,.int .u16 i,.int .u8 fl,.int .u16 dM,.int .u32 s,.int .u32 d,.slice Ao o.length co,.slice Ab b.length cb] 73 (0,0)) /\ w'.heap[gf]?=some (.cells #[.int .u8 6,.int .u32 s,.int .u16 ts,.int .u32 d,.int .u16 td,.int .u8 tf,.slice none 0 0] 76 (0,0))) (ds:=[]) #[false,false,false,false,false,false,false] (by kernel_rfl) rfl rfl ⟨aT.out,bI.out⟩ (fun hHeld=> ?_);refine bH look.Pc.tab look.Pc.bits (fun az dW=> ?_);have ah:=bf (Below.refl qN.heap.size qN);replace HB:=mB HB ah;replace bg:=mX bg ah;replace bu:=mX bu ah;replace cB:=mX cB ah;replace bQ:=mR bQ ah;replace bC:=mR bC ah;replace aT:=mX aT ah;replace cF:=mR cF ah;replace ep:=mR ep ah;replace bI:=mX bI ah
   replace bR:=mX bR ah;clear ah;generalize qN.drew=yE at HB bg bu cB bQ bC aT cF ep bI bR hHeld|-
   refine pz 1 123 az ?_;refine tv 0 122 (.agg #[.int .u8 a,.int .u8 t,.int .u8 6,.int .u16 i,.int .u8 fl,.int .u16 dM,.int .u32 s,.int .u32 d,.slice Ao o.length co,.slice Ab b.length cb]) az dW hHeld ?_ ?_
   ·intro w' s0
    obtain ⟨s0,s1⟩:=s0;exact br (p:= .tmp 7) (ty:=73) (by rfl) (by rfl) s0 jb (by rfl) eI.out
   refine nz 122 ?_;refine tv 2 124 (.agg #[.int .u8 6,.int .u32 s,.int .u16 ts,.int .u32 d,.int .u16 td,.int .u8 tf,.slice none 0 0]) az dW hHeld ?_ ?_
   ·intro w' s0
    obtain ⟨s0,s1⟩:=s0;exact br (p:= .tmp 10) (ty:=76) (by rfl) (by rfl) s1 nn (by rfl) iN.out
   refine nz 124 ?_;refine oz 3 (none) az (fun K hK=> ?_);refine cC (by rfl) (by rfl) rfl rfl rfl bg.out eI.out rfl (by simp [Value.oneCell']) ?_;intro qM hs_ ag;replace bu:=oX ag bu bg (by decide);replace cB:=oX ag cB bg (by decide);replace bQ:=oR ag bQ bg (by decide);replace bC:=oR ag bC bg (by decide);replace aT:=oN ag aT (bD cD);replace cF:=oR ag cF bg (by decide);replace ep:=oR ag ep bg (by decide);replace bI:=oX ag bI bg (by decide);replace bR:=oX ag bR bg (by decide);replace HB:=oB ag HB ld;clear ag;replace bg:=aa.mk hs_;clear hs_;refine hK.out _ _ ⟨aT.out,bI.out⟩ (fun hHeld=> ?_);clear hK K;refine pz 4 3 az ?_;refine oz 5 (none) az (fun K hK=> ?_);refine cC (by rfl) (by rfl) rfl rfl rfl bu.out iN.out rfl (by simp [Value.oneCell']) ?_
   intro Bm hs_ ag;replace bg:=oX ag bg bu (by decide);replace cB:=oN ag cB (bD fN);replace bQ:=oR ag bQ bu (by decide);replace bC:=oR ag bC bu (by decide);replace aT:=oX ag aT bu (by decide);replace cF:=oR ag cF bu (by decide);replace ep:=oR ag ep bu (by decide);replace bI:=oN ag bI (bD cg);replace bR:=oX ag bR bu (by decide);replace HB:=oB ag HB mT;clear ag;replace bu:=aa.mk hs_;clear hs_;refine hK.out _ _ ⟨aT.out,bI.out⟩ (fun hHeld=> ?_);clear hK K;refine pz 6 5 az ?_;refine dz az ?_;clear az dW hHeld
   (try dsimp only)
   go_wp2
   (try simp only [Exit.inBlock,Exit.then])
   refine bodyPost_ret (ig rfl _ _ _ _ _ _ _ _ (0,0) (0,0) _ _ rfl bg.out jb rfl eI.out rfl bu.out nn rfl iN.out) rfl ?_;exact ⟨_,_,_,_,rfl,bQ.out,bC.out,⟨_,_,rfl,cF.out,ep.out⟩,Kd.cl _ _ _ _ _,HB.out⟩
 ·have Bl:(e2==0)=false:=fc ce
  have Je:(e2 !=0)=true:=bne_iff_ne.2 ce;rw [ax ce] at H
  clear ce;obtain rfl:=cS H
  (try dsimp only)
  go_upto_region 7 with (fail)
  refine dg (n:=7) (S:=fun w'=>w'.heap[gn]?=some (.cells #[.int .u8 0,.int .u32 0,.int .u16 0,.int .u32 0,.int .u16 0,.int .u8 0,.slice none 0 0] 76 (0,0))) (ds:=[]) #[false,false,false,false,false,false,false] (by kernel_rfl) rfl rfl cB.out (fun hHeld=> ?_);refine bH look.R7.tab look.R7.bits (fun az dW=> ?_);have ah:=bf (Below.refl w6.heap.size w6);replace HB:=mB HB ah;replace bg:=mX bg ah;replace bu:=mX bu ah;replace cB:=mX cB ah;replace bQ:=mR bQ ah;replace bC:=mR bC ah;replace aT:=mX aT ah;replace cF:=mR cF ah;replace ep:=mR ep ah;clear ah;generalize w6.drew=w7 at HB bg bu cB bQ bC aT cF ep hHeld|-
  refine pz 0 34 az ?_;refine pz 2 36 az ?_;refine tv 1 35 (.agg #[.int .u8 0,.int .u32 0,.int .u16 0,.int .u32 0,.int .u16 0,.int .u8 0,.slice none 0 0]) az dW hHeld ?_ ?_
  ·intro w' s0
   exact br (p:= .tmp 6) (ty:=76) (by rfl) (by rfl) s0 nn (by rfl) iN.out
  refine nz 35 ?_;refine oz 3 (none) az (fun K hK=> ?_);refine cC (by rfl) (by rfl) rfl rfl rfl bg.out eI.out rfl (by simp [Value.oneCell']) ?_;intro w8 hs_ ag;replace bu:=oX ag bu bg (by decide);replace cB:=oX ag cB bg (by decide);replace bQ:=oR ag bQ bg (by decide);replace bC:=oR ag bC bg (by decide);replace aT:=oN ag aT (bD cD);replace cF:=oR ag cF bg (by decide);replace ep:=oR ag ep bg (by decide);replace HB:=oB ag HB ld;clear ag;replace bg:=aa.mk hs_;clear hs_;refine hK.out _ _ cB.out (fun hHeld=> ?_);clear hK K;refine pz 4 3 az ?_;refine oz 5 (none) az (fun K hK=> ?_);refine cC (by rfl) (by rfl) rfl rfl rfl bu.out iN.out rfl (by simp [Value.oneCell']) ?_;intro w9 hs_ ag;replace bg:=oX ag bg bu (by decide)
  replace cB:=oN ag cB (bD fN);replace bQ:=oR ag bQ bu (by decide);replace bC:=oR ag bC bu (by decide);replace aT:=oX ag aT bu (by decide);replace cF:=oR ag cF bu (by decide);replace ep:=oR ag ep bu (by decide);replace HB:=oB ag HB mT;clear ag;replace bu:=aa.mk hs_;clear hs_;refine hK.out _ _ cB.out (fun hHeld=> ?_);clear hK K;refine pz 6 5 az ?_;refine dz az ?_;clear az dW hHeld
  (try dsimp only)
  go_wp2
  (try simp only [Exit.inBlock,Exit.then])
  refine bodyPost_ret (ig rfl _ _ _ _ _ _ _ _ (0,0) (0,0) _ _ rfl bg.out jb rfl eI.out rfl bu.out nn rfl iN.out) rfl ?_;exact ⟨_,_,_,_,rfl,Kd.cl _ _ _ _ _,Kd.cl _ _ _ _ _,rfl,Kd.cl _ _ _ _ _,HB.out⟩
attribute [local go_sem] ot
attribute [local go_sem] ou
attribute [local go_sem] ow
attribute [local go_sem] ox
attribute [local go_sem] oy
attribute [local go_sem] oA
attribute [local go_sem] oC
attribute [local go_sem] oD
attribute [local go_sem] oE
attribute [local go_sem] oF
attribute [local go_sem] oG
attribute [local go_sem] oH
theorem jN.calls (k:Nat) (A:Option Addr) (c:Nat) (l:List Int) (r:LK) (w:World) (hC:Kd.C (Kd.int .u8) w A l.length l) (hL:l.length<=c) (h:jN.f k l=some r):
  Calls Try.prog 69 #[.slice A l.length c] w fun e w'=>r.Post w.heap.size w e w':=by
 unfold jN.f at h
 obtain ⟨⟨a,t,pr,i,fl,dM,s,d,o,b,e_⟩,hp,h⟩:=bV h;dsimp only at h
 by_cases he:e_=0
 ·rw [au he] at h
  subst he
  by_cases Jg:pr=17
  ·rw [au Jg] at h
   subst Jg;exact look.AaP k A c l a t i fl dM s d o b r w hC hL hp h
  ·rw [ax Jg] at h
   by_cases h6:pr=6
   ·rw [au h6] at h
    subst h6;exact look.AaQ k A c l a t i fl dM s d o b r w hC hL hp h
   ·rw [ax h6] at h
    by_cases h1:pr=1
    ·rw [au h1] at h
     subst h1;exact look.Gq k A c l a t i fl dM s d o b r w hC hL hp h
    ·rw [ax h1] at h
     obtain rfl:=cS h;exact look.Rl k A c l a t pr i fl dM s d o b w hC hL hp Jg h6 h1
 ·rw [ax he] at h
  obtain rfl:=cS h;exact look.Rk k A c l a t pr i fl dM s d o b e_ w hC hL hp he
attribute [local go_sem] ot
attribute [local go_sem] ou
attribute [local go_sem] ow
attribute [local go_sem] ox
attribute [local go_sem] oy
attribute [local go_sem] oA
attribute [local go_sem] oC
attribute [local go_sem] oD
attribute [local go_sem] oE
attribute [local go_sem] oF
attribute [local go_sem] oG
attribute [local go_sem] oH
attribute [local go_sem] ot
attribute [local go_sem] ou
attribute [local go_sem] ow
attribute [local go_sem] ox
attribute [local go_sem] oy
attribute [local go_sem] oA
attribute [local go_sem] oC
attribute [local go_sem] oD
attribute [local go_sem] oE
attribute [local go_sem] oF
attribute [local go_sem] oG
attribute [local go_sem] oH
theorem pointed.AaR (k:Nat) (si sp di dp:Int) (us ud uc:Int) (ub:List Int) (vub:Value) (r:List Int) (w:World) {base:Nat} (Oi:Kd.R (Kd.int .u8) 5 w base (fun _=>True) vub ub) (H:pointed.f k si sp di dp (.udp us ud uc ub)=some r):
  Calls Try.prog 70 #[.iface 179 (.agg #[.int .u16 us,.int .u16 ud,.int .u16 uc,vub]),.agg #[.int .u32 si,.int .u16 sp],.agg #[.int .u32 di,.int .u16 dp]] w fun e w'=>∃ vz:Value,e= .returned vz /\ Kd.R (Kd.int .u8) 5 w' w.heap.size (fun _=>True) vz r /\ Below w.heap.size w w':=by
 have iQ:=Try.underlying65;have wB:=Try.underlying83;have qU:=Try.underlying137;have ny:=Try.underlying101;have CW:=Try.underlying179;have C0:=Try.underlying181;have C4:=Try.underlying183;unfold pointed.f at H
 have HB:=gj w;have fL:aa ((Try.prog.info? 65).map (·.size)=some 2):=⟨by kernel_rfl⟩
 have qB:aa ((Try.prog.info? 83).map (·.size)=some 4):=⟨by kernel_rfl⟩
 have jT:aa ((Try.prog.info? 137).map (·.size)=some 10):=⟨by kernel_rfl⟩
 have ja:aa ((Try.prog.info? 101).map (·.size)=some 5):=⟨by kernel_rfl⟩
 have EW:aa ((Try.prog.info? 179).map (·.size)=some 4):=⟨by kernel_rfl⟩
 have EX:aa ((Try.prog.info? 181).map (·.size)=some 10):=⟨by kernel_rfl⟩
 have Jd:aa ((Try.prog.info? 183).map (·.size)=some 5):=⟨by kernel_rfl⟩
 obtain ⟨De,Df,rfl,_,_⟩:=Kd.bW Oi;have dS:=aa.mk Oi;clear Oi;have HG:=aa.mk H;clear H
 go_enter Try.func70,Try.ntmps70
 go_upto_region 2 with (first|((with_reducible refine aA (N:=4) rfl ?_);refine aC ?gJ (N:=4) ?iS (cs:= #[.int .u32 si,.int .u16 sp]) (t:=65) ?fq ?_;(case iS=>rfl);(case gJ=>rfl);(case fq=>first|(go_simp;done)|(go_simp;rfl));intro gs cv w1 bJ cP;have Dc:=aa.mk (show w.heap.size<=gs by rw [cv];exact af HB.out);have cM:=aa.mk bJ;have ah:=cP;replace HB:=mB HB ah;replace dS:=mR dS ah;clear ah;clear cv bJ cP)|((with_reducible refine aA (N:=5) rfl ?_);refine aC ?gJ (N:=5) ?iS (cs:= #[.int .u32 di,.int .u16 dp]) (t:=65) ?fq ?_;(case iS=>rfl);(case gJ=>rfl);(case fq=>first|(go_simp;done)|(go_simp;rfl));intro gd cv w2 bJ cP;have Dd:=aa.mk (show w.heap.size<=gd by rw [cv];exact af HB.out);have cE:=aa.mk bJ;have iG:aa (gs≠gd):=⟨by rw [cv];exact (dJ cM).out⟩;have ah:=cP;replace HB:=mB HB ah;replace dS:=mR dS ah;replace cM:=mX cM ah;clear ah;clear cv bJ cP))
 go_wp2_with fail
 refine (kE.calls us ud uc De Df ub 17 _ (Kd.av dS.out).2.2 (Kd.av dS.out).2.1 rfl).mono ?_;rintro ev w3 ⟨rfl,hb⟩;have ah:=hb;replace HB:=mB HB ah;replace dS:=mR dS ah;replace cM:=mX cM ah;replace cE:=mX cE ah;clear ah;clear hb
 (try dsimp only)
 go_upto_region 10 with (((refine eu rfl rfl rfl rfl rfl qB.out rfl (by simp [Value.oneCell']) ?_);intro fB gH cO))
 revert fB gH cO;intro w4 gH cO;have bR:aa (w4.heap[w3.heap.size]?=some (.cells #[.int .u16 us,.int .u16 ud,.int .u16 uc,.slice De ub.length Df] 83 (0,0))):=⟨gH⟩
 have lR:=wN HB;have ah:=cO;replace HB:=mB HB ah;replace dS:=mR dS ah;replace cM:=mX cM ah;replace cE:=mX cE ah;clear ah;clear gH cO;generalize w3.heap.size=gu at bR lR|-
 refine dg (n:=8) (S:=fun w'=>w'.cell? ⟨gs,1,none⟩=some (.int .u16 sp) /\ w'.cell? ⟨gd,1,none⟩=some (.int .u16 dp)) (ds:=[]) #[false,false,false,false,false,false,false,false] (by kernel_rfl) rfl rfl ⟨((aE cM.out 1).trans rfl),((aE cE.out 1).trans rfl)⟩ (fun hHeld=> ?_);refine bH pointed.Og.tab pointed.Og.bits (fun az dW=> ?_);have ah:=bf (Below.refl w4.heap.size w4);replace HB:=mB HB ah;replace dS:=mR dS ah;replace cM:=mX cM ah;replace cE:=mX cE ah;replace bR:=mX bR ah;clear ah;generalize w4.drew=w5 at HB dS cM cE bR hHeld|-
 refine pz 0 40 az ?_;refine pz 2 42 az ?_;refine tz 1 41 az dW hHeld ?_;refine pz 4 44 az ?_;refine tz 3 43 az dW hHeld ?_;refine oz 5 (none) az (fun K hK=> ?_);refine fK (i:=0) (v:= .int .u16 sp) (cs':= #[.int .u16 sp,.int .u16 ud,.int .u16 uc,.slice De ub.length Df]) (by rfl) (by rfl) bR.out rfl (by (have m_:=(aE bR.out 0).trans (rfl:_=some (.int .u16 us:Value)));(have nY:=ae bR.out 0);first|(go_simp;done)|(go_simp;rfl)) ?_;intro w6 hs_ ag;replace dS:=oR ag dS bR (by decide);replace cM:=oX ag cM bR (by decide);replace cE:=oX ag cE bR (by decide);replace HB:=oB ag HB lR;clear ag;replace bR:=aa.mk hs_;clear hs_;refine hK.out _ _ ⟨((aE cM.out 1).trans rfl),((aE cE.out 1).trans rfl)⟩ (fun hHeld=> ?_);clear hK K;refine pz 6 45 az ?_
 refine oz 7 (none) az (fun K hK=> ?_);refine fK (i:=1) (v:= .int .u16 dp) (cs':= #[.int .u16 sp,.int .u16 dp,.int .u16 uc,.slice De ub.length Df]) (by rfl) (by rfl) bR.out rfl (by (have m_:=(aE bR.out 1).trans (rfl:_=some (.int .u16 ud:Value)));(have nY:=ae bR.out 1);first|(go_simp;done)|(go_simp;rfl)) ?_;intro w7 hs_ ag;replace dS:=oR ag dS bR (by decide);replace cM:=oX ag cM bR (by decide);replace cE:=oX ag cE bR (by decide);replace HB:=oB ag HB lR;clear ag;replace bR:=aa.mk hs_;clear hs_;refine hK.out _ _ ⟨((aE cM.out 1).trans rfl),((aE cE.out 1).trans rfl)⟩ (fun hHeld=> ?_);clear hK K;refine dz az ?_;clear az dW hHeld
 (try dsimp only)
 have UA:=cz bR.out 2 rfl;have H:=HG.out;clear HG
 by_cases cu:uc=0
 ·have cu1:(uc==0)=true:=fH cu
  have cu2:(uc !=0)=false:=by rw [bne,cu1];rfl
  rw [au cu] at H
  clear cu;obtain ⟨⟨rz,re⟩,hz,H⟩:=bV H;obtain rfl:=cS H
  (try dsimp only)
  go_wp2_with (refine Kd.bL rfl (br rfl rfl bR.out Try.underlying83 rfl qB.out) ?_)
  refine (mw.calls sp dp uc De Df ub rz re _ (Kd.av dS.out).2.2 (Kd.av dS.out).2.1 hz).mono ?_;rintro ev w8 ⟨vz,rfl,ho,hb⟩;clear hz;have Gr:=lD ho HB;clear ho;have ah:=hb;replace HB:=mB HB ah;replace dS:=mR dS ah;replace cM:=mX cM ah;replace cE:=mX cE ah;replace bR:=mX bR ah;clear ah;clear hb
  (try dsimp only)
  go_wp2
  (try simp only [Exit.inBlock,Exit.then])
  go_ret
  exact ⟨_,rfl,Gr.out,HB.out⟩
 ·have cu1:(uc==0)=false:=fc cu
  have cu2:(uc !=0)=true:=bne_iff_ne.2 cu;rw [ax cu] at H
  clear cu;obtain ⟨s,hs,H⟩:=bV H;have HG:=aa.mk H;clear H;have AaS:=cz cM.out 0 rfl;have AaT:=cz cE.out 0 rfl
  (try dsimp only)
  go_wp2_with (refine Kd.bL rfl (br rfl rfl bR.out Try.underlying83 rfl qB.out) ?_)
  clear UA AaS AaT;refine (xI.calls k si di sp dp uc De Df ub s _ (Kd.av dS.out).2.2 (Kd.av dS.out).2.1 hs).mono ?_;rintro ev w8 ⟨rfl,hb⟩;clear hs;have ah:=hb;replace HB:=mB HB ah;replace dS:=mR dS ah;replace cM:=mX cM ah;replace cE:=mX cE ah;replace bR:=mX bR ah;clear ah;clear hb
  (try dsimp only)
  go_upto_region 13 with (((refine gQ rfl rfl (i:=2) (v:= .int .u16 s) (cs':= #[.int .u16 sp,.int .u16 dp,.int .u16 s,.slice De ub.length Df]) bR.out rfl ?fq ?_);(case fq=>(have m_:=(aE bR.out 2).trans (rfl:_=some (.int .u16 uc:Value)));(have nY:=ae bR.out 2);first|(go_simp;done)|(go_simp;rfl));intro w9 hs_ ag;replace dS:=oR ag dS bR (by decide);replace cM:=oX ag cM bR (by decide);replace cE:=oX ag cE bR (by decide);replace HB:=oB ag HB lR;clear ag;replace bR:=aa.mk hs_;clear hs_))
  have H:=HG.out;clear HG;obtain ⟨⟨rz,re⟩,hz,H⟩:=bV H;obtain rfl:=cS H
  (try dsimp only)
  go_wp2_with (refine Kd.bL rfl (br rfl rfl bR.out Try.underlying83 rfl qB.out) ?_)
  refine (mw.calls sp dp s De Df ub rz re _ (Kd.av dS.out).2.2 (Kd.av dS.out).2.1 hz).mono ?_;rintro ev j4 ⟨vz,rfl,ho,hb⟩;clear hz;have Gr:=lD ho HB;clear ho;have ah:=hb;replace HB:=mB HB ah;replace dS:=mR dS ah;replace cM:=mX cM ah;replace cE:=mX cE ah;replace bR:=mX bR ah;clear ah;clear hb
  (try dsimp only)
  go_wp2
  (try simp only [Exit.inBlock,Exit.then])
  go_ret
  exact ⟨_,rfl,Gr.out,HB.out⟩
attribute [local go_sem] ot
attribute [local go_sem] ou
attribute [local go_sem] ow
attribute [local go_sem] ox
attribute [local go_sem] oy
attribute [local go_sem] oA
attribute [local go_sem] oC
attribute [local go_sem] oD
attribute [local go_sem] oE
attribute [local go_sem] oF
attribute [local go_sem] oG
attribute [local go_sem] oH
theorem pointed.AaU (k:Nat) (si sp di dp:Int) (ts td tq ta tf tw tc tu:Int) (nf tb:List Int) (Uz vtb:Value) (r:List Int) (w:World) {base:Nat} (Dg:Kd.R (Kd.int .u8) 5 w base (fun _=>True) Uz nf) (htb:Kd.R (Kd.int .u8) 5 w base (fun _=>True) vtb tb) (H:pointed.f k si sp di dp (.tcp ts td tq ta tf tw tc tu nf tb)=some r):
  Calls Try.prog 70 #[.iface 181 (.agg #[.int .u16 ts,.int .u16 td,.int .u32 tq,.int .u32 ta,.int .u8 tf,.int .u16 tw,.int .u16 tc,.int .u16 tu,Uz,vtb]),.agg #[.int .u32 si,.int .u16 sp],.agg #[.int .u32 di,.int .u16 dp]] w fun e w'=>∃ vz:Value,e= .returned vz /\ Kd.R (Kd.int .u8) 5 w' w.heap.size (fun _=>True) vz r /\ Below w.heap.size w w':=by
 have iQ:=Try.underlying65;have wB:=Try.underlying83;have qU:=Try.underlying137;have ny:=Try.underlying101;have CW:=Try.underlying179;have C0:=Try.underlying181;have C4:=Try.underlying183;unfold pointed.f at H
 have HB:=gj w;have fL:aa ((Try.prog.info? 65).map (·.size)=some 2):=⟨by kernel_rfl⟩
 have qB:aa ((Try.prog.info? 83).map (·.size)=some 4):=⟨by kernel_rfl⟩
 have jT:aa ((Try.prog.info? 137).map (·.size)=some 10):=⟨by kernel_rfl⟩
 have ja:aa ((Try.prog.info? 101).map (·.size)=some 5):=⟨by kernel_rfl⟩
 have EW:aa ((Try.prog.info? 179).map (·.size)=some 4):=⟨by kernel_rfl⟩
 have EX:aa ((Try.prog.info? 181).map (·.size)=some 10):=⟨by kernel_rfl⟩
 have Jd:aa ((Try.prog.info? 183).map (·.size)=some 5):=⟨by kernel_rfl⟩
 obtain ⟨uj,uk,rfl,_,_⟩:=Kd.bW Dg;obtain ⟨Er,Es,rfl,_,_⟩:=Kd.bW htb;have cF:=aa.mk Dg;have ep:=aa.mk htb;clear Dg htb;have HG:=aa.mk H;clear H
 go_enter Try.func70,Try.ntmps70
 go_upto_region 2 with (first|((with_reducible refine aA (N:=4) rfl ?_);refine aC ?gJ (N:=4) ?iS (cs:= #[.int .u32 si,.int .u16 sp]) (t:=65) ?fq ?_;(case iS=>rfl);(case gJ=>rfl);(case fq=>first|(go_simp;done)|(go_simp;rfl));intro gs cv w1 bJ cP;have Dc:=aa.mk (show w.heap.size<=gs by rw [cv];exact af HB.out);have cM:=aa.mk bJ;have ah:=cP;replace HB:=mB HB ah;replace cF:=mR cF ah;replace ep:=mR ep ah;clear ah;clear cv bJ cP)|((with_reducible refine aA (N:=5) rfl ?_);refine aC ?gJ (N:=5) ?iS (cs:= #[.int .u32 di,.int .u16 dp]) (t:=65) ?fq ?_;(case iS=>rfl);(case gJ=>rfl);(case fq=>first|(go_simp;done)|(go_simp;rfl));intro gd cv w2 bJ cP;have Dd:=aa.mk (show w.heap.size<=gd by rw [cv];exact af HB.out);have cE:=aa.mk bJ;have iG:aa (gs≠gd):=⟨by rw [cv];exact (dJ cM).out⟩;have ah:=cP;replace HB:=mB HB ah;replace cF:=mR cF ah;replace ep:=mR ep ah;replace cM:=mX cM ah;clear ah;clear cv bJ cP))
 go_wp2_with fail
 refine (kY.calls ts td tq ta tf tw tc tu uj uk nf Er Es tb 6 _ (Kd.av cF.out).2.2 (Kd.av cF.out).2.1 (Kd.av ep.out).2.2 (Kd.av ep.out).2.1 rfl).mono ?_;rintro ev w3 ⟨rfl,hb⟩;have ah:=hb;replace HB:=mB HB ah;replace cF:=mR cF ah;replace ep:=mR ep ah;replace cM:=mX cM ah;replace cE:=mX cE ah;clear ah;clear hb
 (try dsimp only)
 go_upto_region 16 with (((refine eu rfl rfl rfl rfl rfl jT.out rfl (by simp [Value.oneCell']) ?_);intro fB gH cO))
 revert fB gH cO;intro w4 gH cO;have bR:aa (w4.heap[w3.heap.size]?=some (.cells #[.int .u16 ts,.int .u16 td,.int .u32 tq,.int .u32 ta,.int .u8 tf,.int .u16 tw,.int .u16 tc,.int .u16 tu,.slice uj nf.length uk,.slice Er tb.length Es] 137 (0,0))):=⟨gH⟩
 have lR:=wN HB;have ah:=cO;replace HB:=mB HB ah;replace cF:=mR cF ah;replace ep:=mR ep ah;replace cM:=mX cM ah;replace cE:=mX cE ah;clear ah;clear gH cO;generalize w3.heap.size=gu at bR lR|-
 refine dg (n:=8) (S:=fun w'=>w'.cell? ⟨gs,1,none⟩=some (.int .u16 sp) /\ w'.cell? ⟨gd,1,none⟩=some (.int .u16 dp)) (ds:=[]) #[false,false,false,false,false,false,false,false] (by kernel_rfl) rfl rfl ⟨((aE cM.out 1).trans rfl),((aE cE.out 1).trans rfl)⟩ (fun hHeld=> ?_);refine bH pointed.Cc.tab pointed.Cc.bits (fun az dW=> ?_);have ah:=bf (Below.refl w4.heap.size w4);replace HB:=mB HB ah;replace cF:=mR cF ah;replace ep:=mR ep ah;replace cM:=mX cM ah;replace cE:=mX cE ah;replace bR:=mX bR ah;clear ah;generalize w4.drew=w5 at HB cF ep cM cE bR hHeld|-
 refine pz 0 66 az ?_;refine pz 2 68 az ?_;refine tz 1 67 az dW hHeld ?_;refine pz 4 70 az ?_;refine tz 3 69 az dW hHeld ?_;refine oz 5 (none) az (fun K hK=> ?_);refine fK (i:=0) (v:= .int .u16 sp) (cs':= #[.int .u16 sp,.int .u16 td,.int .u32 tq,.int .u32 ta,.int .u8 tf,.int .u16 tw,.int .u16 tc,.int .u16 tu,.slice uj nf.length uk,.slice Er tb.length Es]) (by rfl) (by rfl) bR.out rfl (by (have m_:=(aE bR.out 0).trans (rfl:_=some (.int .u16 ts:Value)));(have nY:=ae bR.out 0);first|(go_simp;done)|(go_simp;rfl)) ?_;intro w6 hs_ ag;replace cF:=oR ag cF bR (by decide);replace ep:=oR ag ep bR (by decide);replace cM:=oX ag cM bR (by decide);replace cE:=oX ag cE bR (by decide);replace HB:=oB ag HB lR;clear ag;replace bR:=aa.mk hs_;clear hs_
 refine hK.out _ _ ⟨((aE cM.out 1).trans rfl),((aE cE.out 1).trans rfl)⟩ (fun hHeld=> ?_);clear hK K;refine pz 6 71 az ?_;refine oz 7 (none) az (fun K hK=> ?_);refine fK (i:=1) (v:= .int .u16 dp) (cs':= #[.int .u16 sp,.int .u16 dp,.int .u32 tq,.int .u32 ta,.int .u8 tf,.int .u16 tw,.int .u16 tc,.int .u16 tu,.slice uj nf.length uk,.slice Er tb.length Es]) (by rfl) (by rfl) bR.out rfl (by (have m_:=(aE bR.out 1).trans (rfl:_=some (.int .u16 td:Value)));(have nY:=ae bR.out 1);first|(go_simp;done)|(go_simp;rfl)) ?_;intro w7 hs_ ag;replace cF:=oR ag cF bR (by decide);replace ep:=oR ag ep bR (by decide);replace cM:=oX ag cM bR (by decide);replace cE:=oX ag cE bR (by decide);replace HB:=oB ag HB lR;clear ag;replace bR:=aa.mk hs_;clear hs_
 refine hK.out _ _ ⟨((aE cM.out 1).trans rfl),((aE cE.out 1).trans rfl)⟩ (fun hHeld=> ?_);clear hK K;refine dz az ?_;clear az dW hHeld
 (try dsimp only)
 have H:=HG.out;clear HG;obtain ⟨s,hs,H⟩:=bV H;have HG:=aa.mk H;clear H;have AaS:=cz cM.out 0 rfl;have AaT:=cz cE.out 0 rfl
 go_wp2_with (refine Kd.bL rfl (br rfl rfl bR.out Try.underlying137 rfl jT.out) ?_)
 clear AaS AaT;refine (xJ.calls k si di sp dp tq ta tf tw tc tu uj uk nf Er Es tb s _ (Kd.av cF.out).2.2 (Kd.av cF.out).2.1 (Kd.av ep.out).2.2 (Kd.av ep.out).2.1 hs).mono ?_;rintro ev w8 ⟨rfl,hb⟩;clear hs;have ah:=hb;replace HB:=mB HB ah;replace cF:=mR cF ah;replace ep:=mR ep ah;replace cM:=mX cM ah;replace cE:=mX cE ah;replace bR:=mX bR ah;clear ah;clear hb
 (try dsimp only)
 go_upto_region 18 with (((refine gQ rfl rfl (i:=6) (v:= .int .u16 s) (cs':= #[.int .u16 sp,.int .u16 dp,.int .u32 tq,.int .u32 ta,.int .u8 tf,.int .u16 tw,.int .u16 s,.int .u16 tu,.slice uj nf.length uk,.slice Er tb.length Es]) bR.out rfl ?fq ?_);(case fq=>(have m_:=(aE bR.out 6).trans (rfl:_=some (.int .u16 tc:Value)));(have nY:=ae bR.out 6);first|(go_simp;done)|(go_simp;rfl));intro w9 hs_ ag;replace cF:=oR ag cF bR (by decide);replace ep:=oR ag ep bR (by decide);replace cM:=oX ag cM bR (by decide);replace cE:=oX ag cE bR (by decide);replace HB:=oB ag HB lR;clear ag;replace bR:=aa.mk hs_;clear hs_))
 have H:=HG.out;clear HG;obtain ⟨⟨rz,re⟩,hz,H⟩:=bV H;obtain rfl:=cS H
 (try dsimp only)
 go_wp2_with (refine Kd.bL rfl (br rfl rfl bR.out Try.underlying137 rfl jT.out) ?_)
 refine (eP.calls k sp dp tq ta tf tw s tu (fun _=>True) uj uk nf (fun _=>True) Er Es tb rz re _ (Kd.TD (Kd.av cF.out).2.1 (Kd.R_F cF.out)) (Kd.TD (Kd.av ep.out).2.1 (Kd.R_F ep.out)) hz).mono ?_;rintro ev j4 ⟨vz,rfl,ho,hb⟩;clear hz;have Gr:=lD ho HB;clear ho;have ah:=hb;replace HB:=mB HB ah;replace cF:=mR cF ah;replace ep:=mR ep ah;replace cM:=mX cM ah;replace cE:=mX cE ah;replace bR:=mX bR ah;clear ah;clear hb
 (try dsimp only)
 go_wp2
 (try simp only [Exit.inBlock,Exit.then])
 go_ret
 exact ⟨_,rfl,Gr.out,HB.out⟩
attribute [local go_sem] ot
attribute [local go_sem] ou
attribute [local go_sem] ow
attribute [local go_sem] ox
attribute [local go_sem] oy
attribute [local go_sem] oA
attribute [local go_sem] oC
attribute [local go_sem] oD
attribute [local go_sem] oE
attribute [local go_sem] oF
attribute [local go_sem] oG
attribute [local go_sem] oH
theorem pointed.calls (k:Nat) (si sp di dp:Int) (x:RB) (vx:Value) (base:Nat) (r:List Int) (w:World) (hx:x.V w base vx) (H:pointed.f k si sp di dp x=some r):
  Calls Try.prog 70 #[vx,.agg #[.int .u32 si,.int .u16 sp],.agg #[.int .u32 di,.int .u16 dp]] w fun e w'=>∃ vz:Value,e= .returned vz /\ Kd.R (Kd.int .u8) 5 w' w.heap.size (fun _=>True) vz r /\ Below w.heap.size w w':=by
 cases x with
 |no=>cases H
 |udp us ud uc ub=>obtain ⟨v3,rfl,h3⟩:=hx;exact pointed.AaR k si sp di dp us ud uc ub v3 r w h3 H
 |tcp ts td tq ta tf tw tc tu nf tb=>obtain ⟨v8,v9,rfl,h8,h9⟩:=hx;exact pointed.AaU k si sp di dp ts td tq ta tf tw tc tu nf tb v8 v9 r w h8 h9 H
 |wC mt mc ms mr mb=>obtain ⟨v4,rfl,h4⟩:=hx;exact pointed.MP k si sp di dp mt mc ms mr mb v4 r w h4 H
end Go.Proofs.Ytkmimamminddiaa.PB
