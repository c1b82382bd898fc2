/- Texts of this claim, merged: PBx53, RwLk, PBx54, RwPt0, RwLookV, RwLkI, RwLkB, RwPtI, RwLkU, RwLkT, RwLook, RwLookL, PBx9, RwChg0, RwChgV, RwHd, RwHop. -/
import Derived.Test.YtkmimamminddiaaZob
import Derived.Test.YtkmimamminddiaaZoc
import Derived.Deep.Cut
import Derived.Deep.CutRange
import Derived.Deep.CutBlock
import Derived.Deep.WholeRow
set_option maxHeartbeats 40000000
set_option maxRecDepth 100000
set_option linter.unusedVariables false
set_option linter.unusedSimpArgs false
namespace Go.Proofs.Ytkmimamminddiaa.PB
open Go.RowKit Go.Proofs.YtkmimamminddiaaW.PrintWords Go.Proofs.YtkmimamminddiaaW.PrintLast Go.Proofs.YtkmimamminddiaaW.PrintMore
attribute [local go_sem] dV dW gI gJ dG dH dX dY
def dJ.f (k:Nat) (l0:List Int):Option ((List (S65))×Bool):=(bT.f k l0).bind fun uF=>(if uF.2=true then (if 0<=uF.1 then (if uF.1<=(l0.length:Int) then ((dK.f (l0.drop (uF.1:Int).toNat)).bind fun Fg=>(if 0<=(wrap64 (uF.1+2)) then (if (wrap64 (uF.1+2))<=(l0.length:Int) then ((dK.f (l0.drop ((wrap64 (uF.1+2)):Int).toNat)).bind fun EE=>(if 9<(l0.length:Int) then (if (rd l0 9)=1 then (if 0<=(wrap64 (uF.1+4)) then (if (wrap64 (uF.1+4))<=(l0.length:Int) then ((dK.f (l0.drop ((wrap64 (uF.1+4)):Int).toNat)).bind fun wG=>(if 12<=(l0.length:Int) then ((eU.f (l0.drop 12)).bind fun Dt=>(if 16<=(l0.length:Int) then ((eU.f (l0.drop 16)).bind fun Du=>(some ((([(⟨Dt,wG⟩:S65),(⟨Du,wG⟩:S65)]:List (S65))),true))) else (none))) else (none))) else (none)) else (none)) else (if 12<=(l0.length:Int) then ((eU.f (l0.drop 12)).bind fun Fh=>(if 16<=(l0.length:Int) then ((eU.f (l0.drop 16)).bind fun Fj=>(some ((([(⟨Fh,Fg⟩:S65),(⟨Fj,EE⟩:S65)]:List (S65))),true))) else (none))) else (none))) else (none))) else (none)) else (none))) else (none)) else (none)) else (some (([]:List (S65)),false)))
def dJ.T4:Bool×List (List Nat×List Nat):=(true,[([],[]),([],[]),([0,1],[0,1]),([2],[2]),([],[]),([],[]),([5],[5]),([4,6],[4,6]),([7,3],[7]),([3,8,0,1,2,3],[3]),([8,9,0,1,2,3,4,5,6,7,8,9],[8])])
def dJ.B4:List Nat:=[0,0,3,7,0,0,32,112,255,511,1023]
theorem dJ.Ac9:rtab .any (opsOf Try.f104 4)=dJ.T4:=by kernel_rfl
theorem dJ.V4:waitsOk dJ.T4.2 dJ.B4=true:=by kernel_rfl
def dJ.T8:Bool×List (List Nat×List Nat):=(true,[([],[]),([0],[0]),([1],[1]),([],[]),([2,3],[2,3]),([],[]),([5],[5]),([6,2],[6]),([],[]),([7,8],[7,8]),([4,9],[4,9]),([10,7,0,1,2,3,4,5,6,7,8,9,10],[10]),([11,0,1,2,3,4,5,6,7,8,9,10,11],[])])
def dJ.B8:List Nat:=[0,1,3,0,15,0,32,103,0,487,1023,2047,4095]
theorem dJ.MP:rtab .any (opsOf Try.f104 8)=dJ.T8:=by kernel_rfl
theorem dJ.EM:waitsOk dJ.T8.2 dJ.B8=true:=by kernel_rfl
theorem dJ.calls (k:Nat) (A0:Option Addr) (c0:Nat) (l0:List Int) (r1:List (S65)) (r2:Bool) (w:World) (hr0:Kd.C (Kd.int .u8) w A0 l0.length l0) (hc0:l0.length<=c0) (h:dJ.f k l0=some (r1,r2)):
  Calls Try.prog 104 #[.slice A0 l0.length c0] w fun e w'=>∃ uP:Value,e= .returned (.tuple #[uP,.bool r2]) /\ Kd.R k65 65 w' w.heap.size (fun _=>True) uP r1 /\ Below w.heap.size w w':=by
 have hu65:=Try.underlying65;have HR0:=Aside0.mk hr0;have mg:=Aside0.mk hc0;clear hr0 hc0;have HB:=jy w
 have H:((bT.f k l0).bind fun uF=>(if uF.2=true then (if 0<=uF.1 then (if uF.1<=(l0.length:Int) then ((dK.f (l0.drop (uF.1:Int).toNat)).bind fun Fg=>(if 0<=(wrap64 (uF.1+2)) then (if (wrap64 (uF.1+2))<=(l0.length:Int) then ((dK.f (l0.drop ((wrap64 (uF.1+2)):Int).toNat)).bind fun EE=>(if 9<(l0.length:Int) then (if (rd l0 9)=1 then (if 0<=(wrap64 (uF.1+4)) then (if (wrap64 (uF.1+4))<=(l0.length:Int) then ((dK.f (l0.drop ((wrap64 (uF.1+4)):Int).toNat)).bind fun wG=>(if 12<=(l0.length:Int) then ((eU.f (l0.drop 12)).bind fun Dt=>(if 16<=(l0.length:Int) then ((eU.f (l0.drop 16)).bind fun Du=>(some ((([(⟨Dt,wG⟩:S65),(⟨Du,wG⟩:S65)]:List (S65))),true))) else (none))) else (none))) else (none)) else (none)) else (if 12<=(l0.length:Int) then ((eU.f (l0.drop 12)).bind fun Fh=>(if 16<=(l0.length:Int) then ((eU.f (l0.drop 16)).bind fun Fj=>(some ((([(⟨Fh,Fg⟩:S65),(⟨Fj,EE⟩:S65)]:List (S65))),true))) else (none))) else (none))) else (none))) else (none)) else (none))) else (none)) else (none)) else (some (([]:List (S65)),false))))=some (r1,r2):=h
 clear h;replace H:=dM H;obtain ⟨⟨sN,Aue⟩,Aw,H⟩:=H
 (try dsimp -simprocs only at H)
 have A2:=Aside0.mk Aw;clear Aw
 by_cases c3:Aue=true
 ·subst c3
  have H1:(if 0<=sN then (if sN<=(l0.length:Int) then ((dK.f (l0.drop (sN:Int).toNat)).bind fun Fg=>(if 0<=(wrap64 (sN+2)) then (if (wrap64 (sN+2))<=(l0.length:Int) then ((dK.f (l0.drop ((wrap64 (sN+2)):Int).toNat)).bind fun EE=>(if 9<(l0.length:Int) then (if (rd l0 9)=1 then (if 0<=(wrap64 (sN+4)) then (if (wrap64 (sN+4))<=(l0.length:Int) then ((dK.f (l0.drop ((wrap64 (sN+4)):Int).toNat)).bind fun wG=>(if 12<=(l0.length:Int) then ((eU.f (l0.drop 12)).bind fun Dt=>(if 16<=(l0.length:Int) then ((eU.f (l0.drop 16)).bind fun Du=>(some ((([(⟨Dt,wG⟩:S65),(⟨Du,wG⟩:S65)]:List (S65))),true))) else (none))) else (none))) else (none)) else (none)) else (if 12<=(l0.length:Int) then ((eU.f (l0.drop 12)).bind fun Fh=>(if 16<=(l0.length:Int) then ((eU.f (l0.drop 16)).bind fun Fj=>(some ((([(⟨Fh,Fg⟩:S65),(⟨Fj,EE⟩:S65)]:List (S65))),true))) else (none))) else (none))) else (none))) else (none)) else (none))) else (none)) else (none))=some (r1,r2):=by rw [ah rfl] at H;exact H
  clear H;have H:=H1;clear H1
  by_cases c4:0<=sN
  ·rw [ah c4] at H
   have qE:=eq_true c4;have Eh:decide (0<=sN)=true:=bJ c4;clear c4
   by_cases c5:sN<=(l0.length:Int)
   ·rw [ah c5] at H
    have qR:=eq_true c5;have wO:decide (sN<=(l0.length:Int))=true:=bJ c5;clear c5;replace H:=dM H;obtain ⟨Fg,Ce,H⟩:=H
    (try dsimp -simprocs only at H)
    have A6:=Aside0.mk Ce;clear Ce;obtain ⟨EN,F9⟩:∃ j_:Int,(wrap64 (sN+2))=j_:=⟨_,rfl⟩
    replace H:(if 0<=(EN) then (if (EN)<=(l0.length:Int) then ((dK.f (l0.drop ((EN):Int).toNat)).bind fun EE=>(if 9<(l0.length:Int) then (if (rd l0 9)=1 then (if 0<=(wrap64 (sN+4)) then (if (wrap64 (sN+4))<=(l0.length:Int) then ((dK.f (l0.drop ((wrap64 (sN+4)):Int).toNat)).bind fun wG=>(if 12<=(l0.length:Int) then ((eU.f (l0.drop 12)).bind fun Dt=>(if 16<=(l0.length:Int) then ((eU.f (l0.drop 16)).bind fun Du=>(some ((([(⟨Dt,wG⟩:S65),(⟨Du,wG⟩:S65)]:List (S65))),true))) else (none))) else (none))) else (none)) else (none)) else (if 12<=(l0.length:Int) then ((eU.f (l0.drop 12)).bind fun Fh=>(if 16<=(l0.length:Int) then ((eU.f (l0.drop 16)).bind fun Fj=>(some ((([(⟨Fh,Fg⟩:S65),(⟨Fj,EE⟩:S65)]:List (S65))),true))) else (none))) else (none))) else (none))) else (none)) else (none))=some (r1,r2):=by first|(rw [F9] at H;exact H)|(simp only [F9] at H|-;exact H)
    (try rw [F9] at A2)
    (try rw [F9] at A6)
    have AlZ:(IntKind.i64.wrap (sN+2))=EN:=(i64_w _).trans F9
    by_cases c8:0<=(EN)
    ·rw [ah c8] at H
     have uf:=eq_true c8;have JW:decide (0<=(EN))=true:=bJ c8;clear c8
     by_cases c9:(EN)<=(l0.length:Int)
     ·rw [ah c9] at H
      have CW:=eq_true c9;have Xq:decide ((EN)<=(l0.length:Int))=true:=bJ c9;clear c9;replace H:=dM H;obtain ⟨EE,Gg,H⟩:=H
      (try dsimp -simprocs only at H)
      have Ue:=Aside0.mk Gg;clear Gg
      by_cases c11:9<(l0.length:Int)
      ·rw [ah c11] at H
       have Ip:decide (9<(l0.length:Int))=true:=bJ c11;have VG:decide (9<l0.length)=true:=bJ (by omega);clear c11
       by_cases c12:(rd l0 9)=1
       ·rw [ah c12] at H
        have Nr:((rd l0 9)==1)=true:=jf c12;have VH:((rd l0 9) !=1)=false:=oM c12;clear c12;obtain ⟨vG,zJ⟩:∃ j_:Int,(wrap64 (sN+4))=j_:=⟨_,rfl⟩
        replace H:(if 0<=(vG) then (if (vG)<=(l0.length:Int) then ((dK.f (l0.drop ((vG):Int).toNat)).bind fun wG=>(if 12<=(l0.length:Int) then ((eU.f (l0.drop 12)).bind fun Dt=>(if 16<=(l0.length:Int) then ((eU.f (l0.drop 16)).bind fun Du=>(some ((([(⟨Dt,wG⟩:S65),(⟨Du,wG⟩:S65)]:List (S65))),true))) else (none))) else (none))) else (none)) else (none))=some (r1,r2):=by first|(rw [zJ] at H;exact H)|(simp only [zJ] at H|-;exact H)
        (try rw [zJ] at A2)
        (try rw [zJ] at A6)
        (try rw [zJ] at Ue)
        have AiW:(IntKind.i64.wrap (sN+4))=vG:=(i64_w _).trans zJ
        by_cases c14:0<=(vG)
        ·rw [ah c14] at H
         have KL:=eq_true c14;have Aas:decide (0<=(vG))=true:=bJ c14;clear c14
         by_cases c15:(vG)<=(l0.length:Int)
         ·rw [ah c15] at H
          have CS:=eq_true c15;have Nq:decide ((vG)<=(l0.length:Int))=true:=bJ c15;clear c15;replace H:=dM H;obtain ⟨wG,CU,H⟩:=H
          (try dsimp -simprocs only at H)
          have YC:=Aside0.mk CU;clear CU
          by_cases c17:12<=(l0.length:Int)
          ·rw [ah c17] at H
           have Qw:=eq_true c17;have Zb:decide (12<=(l0.length:Int))=true:=bJ c17;clear c17;replace H:=dM H;obtain ⟨Dt,CV,H⟩:=H
           (try dsimp -simprocs only at H)
           have Xo:=Aside0.mk CV;clear CV
           by_cases c19:16<=(l0.length:Int)
           ·rw [ah c19] at H
            have Zc:=eq_true c19;have AeM:decide (16<=(l0.length:Int))=true:=bJ c19;clear c19;replace H:=dM H;obtain ⟨Du,JU,H⟩:=H
            (try dsimp -simprocs only at H)
            have Aw:=Aside0.mk JU;clear JU;obtain ⟨Ay8,Aat⟩:∃ y_:List (S65),y_=(([(⟨Dt,wG⟩:S65),(⟨Du,wG⟩:S65)]:List (S65))):=⟨_,rfl⟩
            rw [<- Aat] at H
            have Afz:=Aside0.mk Aat;clear Aat;simp only [Option.some.injEq,Prod.mk.injEq] at H
            obtain ⟨rfl,rfl⟩:=H
            go_enter Try.func104,Try.ntmps104
            try go_wp2_with (first|((with_reducible refine ai (f:=86) rfl ?_);refine gL 10 Try.func86 #[.slice A0 l0.length c0] ?_;(with_reducible refine (bT.calls k _ _ l0 sN true _ ?au ?ax A2.out).mono ?_);(case au=>repeat (first|exact HR0.out|(with_reducible refine Kd.iL ?_ _)|(with_reducible refine Kd.iD ?_ _)|(with_reducible refine Kd.jE ?_)));(case ax=>exact mg.out);rintro e w21 ⟨rfl,hb⟩;refine ⟨_,rfl, ?_⟩;have ay:=Aside0.mk (ag (bz HB) hb);clear HB;have HB:=ay;clear ay;(try clear hb);(try clear hb2);(try clear hk);(try clear hi)))
            have ay:=Aside0.mk (below_drew1 HB.out);clear HB;have HB:=ay;clear ay;obtain ⟨Ay9,AfA,_,AfB,_⟩:=info_parts info5;obtain ⟨A23,Auf,Am4,Am5⟩:=ja (P:=Try.prog) (Value.int .u8) 0 23 5 .i64 Try.underlying23 AfA AfB A0 c0 l0 sN je je mg.out;have RG:=Aside0.mk (Kd.dR (h1:=fun _=>rfl) (Am4 _ (Kd.dO HR0.out)));have Aau:=Aside0.mk Am5;clear Am4 Am5 AfA AfB;obtain ⟨Aza,AfC,_,AfD,_⟩:=info_parts info5
            obtain ⟨A24,Auh,Am6,Am7⟩:=ja (P:=Try.prog) (Value.int .u8) 0 23 5 .i64 Try.underlying23 AfC AfD A0 c0 l0 (EN) je je mg.out;have RH:=Aside0.mk (Kd.dR (h1:=fun _=>rfl) (Am6 _ (Kd.dO HR0.out)));have Aav:=Aside0.mk Am7;clear Am6 Am7 AfC AfD;refine start_ (n:=11) (S:=fun w'=>True) (ds:=[]) #[false,false,false,false,false,false,false,false,false,false,false] (by kernel_rfl) rfl rfl trivial (fun hHeld=> ?_);refine with_tabW dJ.Ac9 dJ.V4 (fun HT_ HW_=> ?_);generalize w21.drew=w22 at HB RG RH hHeld|-
            refine pz 0 15 HT_ ?_;refine pz 1 16 HT_ ?_;refine pz 2 17 HT_ ?_;refine pz 4 19 HT_ ?_;refine pz 5 20 HT_ ?_;refine pz 6 21 HT_ ?_;refine pz 7 22 HT_ ?_;refine oz 3 (some 18) HT_ (fun K hK=> ?_);refine goes_ Try.func87 (by kernel_rfl) rfl #[.slice A23 (l0.drop (sN:Int).toNat).length (c0 - sN.toNat)] (by rfl) rfl rfl (by (try simp only [List.map_toArray,List.map_cons,List.map_nil]);first|done|(rw [show (l0.drop (sN:Int).toNat).length=(l0.length - sN.toNat) from List.length_drop]<;>rfl)|rfl|(simp only [List.length_drop,List.length_take];rfl)|(go_simp;done)|(simp [Act.eval,IntKind.signed];done)|(simp [Act.eval,IntKind.signed];rfl)) ?_
            with_reducible refine (dK.calls _ _ (l0.drop (sN:Int).toNat) Fg _ ?au ?ax A6.out).mono ?_
            (case au=>exact Kd.aJ RG.out (bz HB))
            (case ax=>exact Aau.out)
            rintro e w' ⟨rfl,⟨nd,rfl⟩⟩;refine ⟨_,rfl, ?_⟩;refine hK.out _ _ trivial (fun hHeld=> ?_);clear hK K;refine nz 18 ?_;refine oz 8 (some 23) HT_ (fun K hK=> ?_);refine goes_ Try.func87 (by kernel_rfl) rfl #[.slice A24 (l0.drop ((EN):Int).toNat).length (c0 - (EN).toNat)] (by rfl) rfl rfl (by (try simp only [List.map_toArray,List.map_cons,List.map_nil]);first|done|(rw [show (l0.drop ((EN):Int).toNat).length=(l0.length - (EN).toNat) from List.length_drop]<;>rfl)|(simp only [F9];rfl)|rfl|(simp only [List.length_drop,List.length_take];rfl)|(go_simp;done)|(simp [Act.eval,IntKind.signed];done)|(simp [Act.eval,IntKind.signed];rfl)) ?_
            with_reducible refine (dK.calls _ _ (l0.drop ((EN):Int).toNat) EE _ ?au ?ax Ue.out).mono ?_
            (case au=>exact Kd.aJ RH.out (bz HB))
            (case ax=>exact Aav.out)
            rintro e w' ⟨rfl,⟨nd,rfl⟩⟩;refine ⟨_,rfl, ?_⟩;refine hK.out _ _ trivial (fun hHeld=> ?_);clear hK K;refine nz 23 ?_;refine pz 9 6 HT_ ?_;refine pz 10 7 HT_ ?_;refine dz HT_ ?_;have UA:0<=(9:Int):=(by omega)
            have UB:9<(l0.length:Int):=je;obtain ⟨NF,Ai3,vW⟩:=Kd.dU HR0.out 9 UA UB
            cases Ai3
            (try simp only [show (9:Int).toNat=9 from rfl,Nat.reduceMul,Nat.reduceEqDiff,Go.Addr.add,↓reduceIte] at vW)
            have Am8:(9<l0.length)=True:=eq_true (by omega)
            (try rw [show ((9:Int)).toNat=9 from rfl] at vW)
            replace vW:=(HB.out.cell (dS w _ vW)).trans vW;replace UA:=eq_true UA;replace UB:=eq_true UB;obtain ⟨AsU,Qy,_,Qz,_⟩:=info_parts info5;obtain ⟨A25,Ahj,Ze,Zf⟩:=ja (P:=Try.prog) (Value.int .u8) 0 23 5 .i64 Try.underlying23 Qy Qz (some NF) c0 l0 (vG) je je mg.out;have Am9:=Aside0.mk (Kd.dR (h1:=fun _=>rfl) (Ze _ (Kd.dO HR0.out)));have Ana:=Aside0.mk Zf;clear Ze Zf Qy Qz
            try go_wp2_with (first|((with_reducible refine ai (f:=87) rfl ?_);refine zQ (some 32) rfl rfl Try.func87 (by kernel_rfl) rfl #[.slice A25 (l0.drop ((vG):Int).toNat).length (c0 - (vG).toNat)] rfl (by (try simp only [List.map_toArray,List.map_cons,List.map_nil]);first|done|(rw [show (l0.drop ((vG):Int).toNat).length=(l0.length - (vG).toNat) from List.length_drop]<;>rfl)|(simp only [zJ];rfl)|rfl|(simp only [List.length_drop,List.length_take];rfl)|(go_simp;done)|(simp [Act.eval,IntKind.signed];done)|(simp [Act.eval,IntKind.signed];rfl)) ?_;(with_reducible refine (dK.calls _ _ (l0.drop ((vG):Int).toNat) wG _ ?au ?ax YC.out).mono ?_);(case au=>exact Kd.aJ Am9.out (bz HB));(case ax=>exact Ana.out);rintro e w' ⟨rfl,⟨nd,rfl⟩⟩;refine ⟨_,rfl, ?_⟩))
            (try (rw [iC w22];generalize nO:World.drewN w22 _=w22;have ay:Aside0 (Below w.heap.size w w22):=⟨by rw [<- nO];exact bz HB⟩;clear HB nO;have HB:=ay;clear ay))
            have ay:=Aside0.mk (below_drew1 HB.out);clear HB;have HB:=ay;clear ay;obtain ⟨AsV,QA,_,QB,_⟩:=info_parts info5;obtain ⟨A27,Ahk,Zg,Zh⟩:=ja (P:=Try.prog) (Value.int .u8) 0 23 5 .i64 Try.underlying23 QA QB (some NF) c0 l0 12 (by omega) je mg.out;have AfE:=Aside0.mk (Kd.dR (h1:=fun _=>rfl) (Zg _ (Kd.dO HR0.out)));have Anb:=Aside0.mk Zh;clear Zg Zh QA QB;obtain ⟨AsX,QC,_,QD,_⟩:=info_parts info5;obtain ⟨A28,Ahl,Zi,Zj⟩:=ja (P:=Try.prog) (Value.int .u8) 0 23 5 .i64 Try.underlying23 QC QD (some NF) c0 l0 16 (by omega) je mg.out
            have AfF:=Aside0.mk (Kd.dR (h1:=fun _=>rfl) (Zi _ (Kd.dO HR0.out)));have Anc:=Aside0.mk Zj;clear Zi Zj QC QD;refine start_ (n:=13) (S:=fun w'=>True) (ds:=[]) #[false,false,false,false,false,false,false,false,false,false,false,false,false] (by kernel_rfl) rfl rfl trivial (fun hHeld=> ?_);refine with_tabW dJ.MP dJ.EM (fun HT_ HW_=> ?_);generalize w22.drew=w26 at HB AfE AfF hHeld|-
            refine pz 0 34 HT_ ?_;refine pz 1 35 HT_ ?_;refine pz 3 37 HT_ ?_;refine pz 5 39 HT_ ?_;refine pz 6 40 HT_ ?_;refine pz 8 42 HT_ ?_;refine oz 2 (some 36) HT_ (fun K hK=> ?_);refine goes_ Try.func124 (by kernel_rfl) rfl #[.slice A27 (l0.drop 12).length (c0 - 12)] (by rfl) rfl rfl (by (try simp only [List.map_toArray,List.map_cons,List.map_nil]);first|done|(rw [show (l0.drop 12).length=(l0.length - 12) from List.length_drop]<;>rfl)|rfl|(simp only [List.length_drop,List.length_take];rfl)|(go_simp;done)|(simp [Act.eval,IntKind.signed];done)|(simp [Act.eval,IntKind.signed];rfl)) ?_
            with_reducible refine (eU.calls _ _ (l0.drop 12) Dt _ ?au ?ax Xo.out).mono ?_
            (case au=>exact Kd.aJ AfE.out (bz HB))
            (case ax=>exact Anb.out)
            rintro e w' ⟨rfl,⟨nd,rfl⟩⟩;refine ⟨_,rfl, ?_⟩;refine hK.out _ _ trivial (fun hHeld=> ?_);clear hK K;refine nz 36 ?_;refine pz 4 38 HT_ ?_;refine oz 7 (some 41) HT_ (fun K hK=> ?_);refine goes_ Try.func124 (by kernel_rfl) rfl #[.slice A28 (l0.drop 16).length (c0 - 16)] (by rfl) rfl rfl (by (try simp only [List.map_toArray,List.map_cons,List.map_nil]);first|done|(rw [show (l0.drop 16).length=(l0.length - 16) from List.length_drop]<;>rfl)|rfl|(simp only [List.length_drop,List.length_take];rfl)|(go_simp;done)|(simp [Act.eval,IntKind.signed];done)|(simp [Act.eval,IntKind.signed];rfl)) ?_
            with_reducible refine (eU.calls _ _ (l0.drop 16) Du _ ?au ?ax Aw.out).mono ?_
            (case au=>exact Kd.aJ AfF.out (bz HB))
            (case ax=>exact Anc.out)
            rintro e w' ⟨rfl,⟨nd,rfl⟩⟩;refine ⟨_,rfl, ?_⟩;refine hK.out _ _ trivial (fun hHeld=> ?_);clear hK K;refine nz 41 ?_;refine pz 9 43 HT_ ?_;refine oz 10 (some 44) HT_ (fun K hK=> ?_)
            refine Kd.wM k65 _ 65 ?hg (N:=44) ?hd (xs:=([(⟨Dt,wG⟩:S65),(⟨Du,wG⟩:S65)]:List (S65))) (inner:=[.int .u32 Dt,.int .u16 wG,.int .u32 Du,.int .u16 wG]) (ok:=fun _=>True) (xw:=fun _=>True) ?hr ?hp (fun _ hk=>hk) trivial (Below.refl _ _) (Nat.le_refl _) (by simp) ?_;(case hd=>rfl);(case hg=>rfl);(case hr=>first|(go_simp;done)|(go_simp;rfl));(case hp=>exact (dn.c2 (show Kd.M k65 _ _ _ (⟨Dt,wG⟩:S65) [.int .u32 Dt,.int .u16 wG] from (DU _ _ _ (⟨Dt,wG⟩:S65))) (dn.c2 (show Kd.M k65 _ _ _ (⟨Du,wG⟩:S65) [.int .u32 Du,.int .u16 wG] from (DU _ _ _ (⟨Du,wG⟩:S65))) (dn.none _ _))));intro Azb w29 Aaw hb hg_ kP;clear hg_ kP
            (first|rw [<- Afz.out] at Aaw|(simp only [Int.reduceToNat] at Aaw;rw [<- Afz.out] at Aaw))
            have ay:=Aside0.mk (Kd.R_lower Aaw (below_size (bz HB)));have aC:=Aside0.mk (ag (bz HB) hb);clear HB;have Ane:=ay;have HB:=aC;clear ay aC;clear hb Aaw;refine hK.out _ _ trivial (fun hHeld=> ?_);clear hK K;refine nz 44 ?_;refine pz 11 2 HT_ ?_;refine pz 12 3 HT_ ?_;refine dz HT_ ?_
            try go_wp2
            go_ret2
            exact ⟨_,by first|rfl|(simp [ae,af]<;>rfl)|(simp only [<- F9,<- zJ];first|rfl|(simp [ae,af]<;>rfl))|(simp [*,ae,af]<;>rfl),by (with_reducible repeat (first|apply Kd.ik|apply Kd.gV|apply Kd.iq));exact Ane.out,bz HB⟩
           ·rw [aj c19] at H
            cases H
          ·rw [aj c17] at H
           cases H
         ·rw [aj c15] at H
          cases H
        ·rw [aj c14] at H
         cases H
       ·rw [aj c12] at H
        have Nr:((rd l0 9)==1)=false:=iM c12;have VH:((rd l0 9) !=1)=true:=pq c12
        by_cases c31:12<=(l0.length:Int)
        ·rw [ah c31] at H
         have Amg:=eq_true c31;have Amh:decide (12<=(l0.length:Int))=true:=bJ c31;clear c31;replace H:=dM H;obtain ⟨Fh,Aax,H⟩:=H
         (try dsimp -simprocs only at H)
         have A32:=Aside0.mk Aax;clear Aax
         by_cases c33:16<=(l0.length:Int)
         ·rw [ah c33] at H
          have Axo:=eq_true c33;have Axp:decide (16<=(l0.length:Int))=true:=bJ c33;clear c33;replace H:=dM H;obtain ⟨Fj,Ang,H⟩:=H
          (try dsimp -simprocs only at H)
          have A34:=Aside0.mk Ang;clear Ang;obtain ⟨Aze,Aay⟩:∃ y_:List (S65),y_=(([(⟨Fh,Fg⟩:S65),(⟨Fj,EE⟩:S65)]:List (S65))):=⟨_,rfl⟩
          rw [<- Aay] at H
          have AfG:=Aside0.mk Aay;clear Aay;simp only [Option.some.injEq,Prod.mk.injEq] at H
          obtain ⟨rfl,rfl⟩:=H
          go_enter Try.func104,Try.ntmps104
          try go_wp2_with (first|((with_reducible refine ai (f:=86) rfl ?_);refine gL 10 Try.func86 #[.slice A0 l0.length c0] ?_;(with_reducible refine (bT.calls k _ _ l0 sN true _ ?au ?ax A2.out).mono ?_);(case au=>repeat (first|exact HR0.out|(with_reducible refine Kd.iL ?_ _)|(with_reducible refine Kd.iD ?_ _)|(with_reducible refine Kd.jE ?_)));(case ax=>exact mg.out);rintro e Hg ⟨rfl,hb⟩;refine ⟨_,rfl, ?_⟩;have ay:=Aside0.mk (ag (bz HB) hb);clear HB;have HB:=ay;clear ay;(try clear hb);(try clear hb2);(try clear hk);(try clear hi)))
          have ay:=Aside0.mk (below_drew1 HB.out);clear HB;have HB:=ay;clear ay;obtain ⟨Atv,QN,_,QO,_⟩:=info_parts info5;obtain ⟨A37,Ah4,ZI,ZJ⟩:=ja (P:=Try.prog) (Value.int .u8) 0 23 5 .i64 Try.underlying23 QN QO A0 c0 l0 sN je je mg.out;have RG:=Aside0.mk (Kd.dR (h1:=fun _=>rfl) (ZI _ (Kd.dO HR0.out)));have Aau:=Aside0.mk ZJ;clear ZI ZJ QN QO;obtain ⟨Atx,QS,_,QT,_⟩:=info_parts info5
          obtain ⟨A38,Ah5,ZK,ZL⟩:=ja (P:=Try.prog) (Value.int .u8) 0 23 5 .i64 Try.underlying23 QS QT A0 c0 l0 (EN) je je mg.out;have RH:=Aside0.mk (Kd.dR (h1:=fun _=>rfl) (ZK _ (Kd.dO HR0.out)));have Aav:=Aside0.mk ZL;clear ZK ZL QS QT;refine start_ (n:=11) (S:=fun w'=>True) (ds:=[]) #[false,false,false,false,false,false,false,false,false,false,false] (by kernel_rfl) rfl rfl trivial (fun hHeld=> ?_);refine with_tabW dJ.Ac9 dJ.V4 (fun HT_ HW_=> ?_);generalize Hg.drew=w36 at HB RG RH hHeld|-
          refine pz 0 15 HT_ ?_;refine pz 1 16 HT_ ?_;refine pz 2 17 HT_ ?_;refine pz 4 19 HT_ ?_;refine pz 5 20 HT_ ?_;refine pz 6 21 HT_ ?_;refine pz 7 22 HT_ ?_;refine oz 3 (some 18) HT_ (fun K hK=> ?_);refine goes_ Try.func87 (by kernel_rfl) rfl #[.slice A37 (l0.drop (sN:Int).toNat).length (c0 - sN.toNat)] (by rfl) rfl rfl (by (try simp only [List.map_toArray,List.map_cons,List.map_nil]);first|done|(rw [show (l0.drop (sN:Int).toNat).length=(l0.length - sN.toNat) from List.length_drop]<;>rfl)|rfl|(simp only [List.length_drop,List.length_take];rfl)|(go_simp;done)|(simp [Act.eval,IntKind.signed];done)|(simp [Act.eval,IntKind.signed];rfl)) ?_
          with_reducible refine (dK.calls _ _ (l0.drop (sN:Int).toNat) Fg _ ?au ?ax A6.out).mono ?_
          (case au=>exact Kd.aJ RG.out (bz HB))
          (case ax=>exact Aau.out)
          rintro e w' ⟨rfl,⟨nd,rfl⟩⟩;refine ⟨_,rfl, ?_⟩;refine hK.out _ _ trivial (fun hHeld=> ?_);clear hK K;refine nz 18 ?_;refine oz 8 (some 23) HT_ (fun K hK=> ?_);refine goes_ Try.func87 (by kernel_rfl) rfl #[.slice A38 (l0.drop ((EN):Int).toNat).length (c0 - (EN).toNat)] (by rfl) rfl rfl (by (try simp only [List.map_toArray,List.map_cons,List.map_nil]);first|done|(rw [show (l0.drop ((EN):Int).toNat).length=(l0.length - (EN).toNat) from List.length_drop]<;>rfl)|(simp only [F9];rfl)|rfl|(simp only [List.length_drop,List.length_take];rfl)|(go_simp;done)|(simp [Act.eval,IntKind.signed];done)|(simp [Act.eval,IntKind.signed];rfl)) ?_
          with_reducible refine (dK.calls _ _ (l0.drop ((EN):Int).toNat) EE _ ?au ?ax Ue.out).mono ?_
          (case au=>exact Kd.aJ RH.out (bz HB))
          (case ax=>exact Aav.out)
          rintro e w' ⟨rfl,⟨nd,rfl⟩⟩;refine ⟨_,rfl, ?_⟩;refine hK.out _ _ trivial (fun hHeld=> ?_);clear hK K;refine nz 23 ?_;refine pz 9 6 HT_ ?_;refine pz 10 7 HT_ ?_;refine dz HT_ ?_;have UA:0<=(9:Int):=(by omega)
          have UB:9<(l0.length:Int):=je;obtain ⟨NF,Ai3,vW⟩:=Kd.dU HR0.out 9 UA UB
          cases Ai3
          (try simp only [show (9:Int).toNat=9 from rfl,Nat.reduceMul,Nat.reduceEqDiff,Go.Addr.add,↓reduceIte] at vW)
          have Am8:(9<l0.length)=True:=eq_true (by omega)
          (try rw [show ((9:Int)).toNat=9 from rfl] at vW)
          replace vW:=(HB.out.cell (dS w _ vW)).trans vW;replace UA:=eq_true UA;replace UB:=eq_true UB
          try go_wp2
          (try (rw [iC w36];generalize nO:World.drewN w36 _=w36;have ay:Aside0 (Below w.heap.size w w36):=⟨by rw [<- nO];exact bz HB⟩;clear HB nO;have HB:=ay;clear ay))
          have ay:=Aside0.mk (below_drew1 HB.out);clear HB;have HB:=ay;clear ay;obtain ⟨Azf,AfH,_,AfI,_⟩:=info_parts info5;obtain ⟨yz,Auj,Anh,Ani⟩:=ja (P:=Try.prog) (Value.int .u8) 0 23 5 .i64 Try.underlying23 AfH AfI (some NF) c0 l0 12 (by omega) je mg.out;have AfJ:=Aside0.mk (Kd.dR (h1:=fun _=>rfl) (Anh _ (Kd.dO HR0.out)));have Anj:=Aside0.mk Ani;clear Anh Ani AfH AfI;obtain ⟨Azg,AfK,_,AfL,_⟩:=info_parts info5;obtain ⟨A41,Auk,Ank,Anl⟩:=ja (P:=Try.prog) (Value.int .u8) 0 23 5 .i64 Try.underlying23 AfK AfL (some NF) c0 l0 16 (by omega) je mg.out
          have AfM:=Aside0.mk (Kd.dR (h1:=fun _=>rfl) (Ank _ (Kd.dO HR0.out)));have Anm:=Aside0.mk Anl;clear Ank Anl AfK AfL;refine start_ (n:=13) (S:=fun w'=>True) (ds:=[]) #[false,false,false,false,false,false,false,false,false,false,false,false,false] (by kernel_rfl) rfl rfl trivial (fun hHeld=> ?_);refine with_tabW dJ.MP dJ.EM (fun HT_ HW_=> ?_);generalize w36.drew=w39 at HB AfJ AfM hHeld|-
          refine pz 0 34 HT_ ?_;refine pz 1 35 HT_ ?_;refine pz 3 37 HT_ ?_;refine pz 5 39 HT_ ?_;refine pz 6 40 HT_ ?_;refine pz 8 42 HT_ ?_;refine oz 2 (some 36) HT_ (fun K hK=> ?_);refine goes_ Try.func124 (by kernel_rfl) rfl #[.slice yz (l0.drop 12).length (c0 - 12)] (by rfl) rfl rfl (by (try simp only [List.map_toArray,List.map_cons,List.map_nil]);first|done|(rw [show (l0.drop 12).length=(l0.length - 12) from List.length_drop]<;>rfl)|rfl|(simp only [List.length_drop,List.length_take];rfl)|(go_simp;done)|(simp [Act.eval,IntKind.signed];done)|(simp [Act.eval,IntKind.signed];rfl)) ?_
          with_reducible refine (eU.calls _ _ (l0.drop 12) Fh _ ?au ?ax A32.out).mono ?_
          (case au=>exact Kd.aJ AfJ.out (bz HB))
          (case ax=>exact Anj.out)
          rintro e w' ⟨rfl,⟨nd,rfl⟩⟩;refine ⟨_,rfl, ?_⟩;refine hK.out _ _ trivial (fun hHeld=> ?_);clear hK K;refine nz 36 ?_;refine pz 4 38 HT_ ?_;refine oz 7 (some 41) HT_ (fun K hK=> ?_);refine goes_ Try.func124 (by kernel_rfl) rfl #[.slice A41 (l0.drop 16).length (c0 - 16)] (by rfl) rfl rfl (by (try simp only [List.map_toArray,List.map_cons,List.map_nil]);first|done|(rw [show (l0.drop 16).length=(l0.length - 16) from List.length_drop]<;>rfl)|rfl|(simp only [List.length_drop,List.length_take];rfl)|(go_simp;done)|(simp [Act.eval,IntKind.signed];done)|(simp [Act.eval,IntKind.signed];rfl)) ?_
          with_reducible refine (eU.calls _ _ (l0.drop 16) Fj _ ?au ?ax A34.out).mono ?_
          (case au=>exact Kd.aJ AfM.out (bz HB))
          (case ax=>exact Anm.out)
          rintro e w' ⟨rfl,⟨nd,rfl⟩⟩;refine ⟨_,rfl, ?_⟩;refine hK.out _ _ trivial (fun hHeld=> ?_);clear hK K;refine nz 41 ?_;refine pz 9 43 HT_ ?_;refine oz 10 (some 44) HT_ (fun K hK=> ?_)
          refine Kd.wM k65 _ 65 ?hg (N:=44) ?hd (xs:=([(⟨Fh,Fg⟩:S65),(⟨Fj,EE⟩:S65)]:List (S65))) (inner:=[.int .u32 Fh,.int .u16 Fg,.int .u32 Fj,.int .u16 EE]) (ok:=fun _=>True) (xw:=fun _=>True) ?hr ?hp (fun _ hk=>hk) trivial (Below.refl _ _) (Nat.le_refl _) (by simp) ?_;(case hd=>rfl);(case hg=>rfl);(case hr=>first|(go_simp;done)|(go_simp;rfl));(case hp=>exact (dn.c2 (show Kd.M k65 _ _ _ (⟨Fh,Fg⟩:S65) [.int .u32 Fh,.int .u16 Fg] from (DU _ _ _ (⟨Fh,Fg⟩:S65))) (dn.c2 (show Kd.M k65 _ _ _ (⟨Fj,EE⟩:S65) [.int .u32 Fj,.int .u16 EE] from (DU _ _ _ (⟨Fj,EE⟩:S65))) (dn.none _ _))));intro Azi w42 Aaz hb hg_ kP;clear hg_ kP
          (first|rw [<- AfG.out] at Aaz|(simp only [Int.reduceToNat] at Aaz;rw [<- AfG.out] at Aaz))
          have ay:=Aside0.mk (Kd.R_lower Aaz (below_size (bz HB)));have aC:=Aside0.mk (ag (bz HB) hb);clear HB;have Ann:=ay;have HB:=aC;clear ay aC;clear hb Aaz;refine hK.out _ _ trivial (fun hHeld=> ?_);clear hK K;refine nz 44 ?_;refine pz 11 2 HT_ ?_;refine pz 12 3 HT_ ?_;refine dz HT_ ?_
          try go_wp2
          go_ret2
          exact ⟨_,by first|rfl|(simp [ae,af]<;>rfl)|(simp only [<- F9];first|rfl|(simp [ae,af]<;>rfl))|(simp [*,ae,af]<;>rfl),by (with_reducible repeat (first|apply Kd.ik|apply Kd.gV|apply Kd.iq));exact Ann.out,bz HB⟩
         ·rw [aj c33] at H
          cases H
        ·rw [aj c31] at H
         cases H
      ·rw [aj c11] at H
       cases H
     ·rw [aj c9] at H
      cases H
    ·rw [aj c8] at H
     cases H
   ·rw [aj c5] at H
    cases H
  ·rw [aj c4] at H
   cases H
 ·replace c3:=FT c3
  subst c3;have H1:(some (([]:List (S65)),false))=some (r1,r2):=by rw [aj (show ¬ (false=true) by decide)] at H;exact H
  clear H;have H:=H1;clear H1;simp only [Option.some.injEq,Prod.mk.injEq] at H
  obtain ⟨rfl,rfl⟩:=H
  go_enter Try.func104,Try.ntmps104
  go_wp2_with (first|((with_reducible refine ai (f:=86) rfl ?_);refine gL 10 Try.func86 #[.slice A0 l0.length c0] ?_;(with_reducible refine (bT.calls k _ _ l0 sN false _ ?au ?ax A2.out).mono ?_);(case au=>repeat (first|exact HR0.out|(with_reducible refine Kd.iL ?_ _)|(with_reducible refine Kd.iD ?_ _)|(with_reducible refine Kd.jE ?_)));(case ax=>exact mg.out);rintro e V5 ⟨rfl,hb⟩;refine ⟨_,rfl, ?_⟩;have ay:=Aside0.mk (ag (bz HB) hb);clear HB;have HB:=ay;clear ay;(try clear hb);(try clear hb2);(try clear hk);(try clear hi)))
  go_ret2
  exact ⟨_,by first|rfl|(simp [ae,af]<;>rfl)|(simp [*,ae,af]<;>rfl),by first|exact Kd.bV _ _ _ _ _|exact Kd.lV _ _ _ _ _|exact Kd.lW _ _ _ _ _|exact Kd.lT _ _ _ _ _|exact Kd.lU _ _ _ _ _,bz HB⟩
def wR.f (aI:Int) (aV:Int) (aX:Int) (bn:Int) (bY:List Int):Option (Bool):=(pK.f aI).bind fun AaA=>(some (AaA==3))
theorem wR.calls (aI:Int) (aV:Int) (aX:Int) (bn:Int) (iO:Option Addr) (iP:Nat) (bY:List Int) (r:Bool) (w:World) (nI:Kd.C (Kd.int .u8) w iO bY.length bY) (nJ:bY.length<=iP) (h:wR.f aI aV aX bn bY=some r):
  Calls Try.prog 106 #[.agg #[.int .u8 aI,.int .u8 aV,.int .u16 aX,.int .u32 bn,.slice iO bY.length iP]] w fun e w'=>e= .returned (.bool r) /\ Below w.heap.size w w':=by
 have uQ:=Try.underlying101;have uu:=Aside0.mk nI;have uS:=Aside0.mk nJ;clear nI nJ;have HB:=jy w;have H:((pK.f aI).bind fun AaA=>(some (AaA==3)))=some r:=h;clear h;replace H:=dM H;obtain ⟨AaA,Aw,H⟩:=H
 (try dsimp -simprocs only at H)
 have A2:=Aside0.mk Aw;clear Aw;obtain rfl:=eF H
 go_enter Try.func106,Try.ntmps106
 go_wp2_with (first|((with_reducible refine ai (f:=125) rfl ?_);refine gL 5 Try.func125 #[.int .u8 aI] ?_;(with_reducible refine (pK.calls aI AaA _ A2.out).mono ?_);rintro e w' ⟨rfl,⟨nd,rfl⟩⟩;refine ⟨_,rfl, ?_⟩))
 go_ret
 exact ⟨by first|rfl|(simp [ae,af]<;>rfl)|(simp [*,ae,af]<;>rfl),bz HB⟩
def Ada.f (k:Nat) (a0:Int) (a1:Int) (fH:Int) (fJ:Int) (fF:Int) (jH:List Int):Option (Int):=(uh.f k a0 a1 fH fJ 0 jH).bind fun V6=>(if V6.2=true then (if V6.1=65535 then (some V6.1) else (some (Go.bits .xor .u16 IntKind.u16.max V6.1))) else (some 0))
theorem xK (v b:Value) (w:World):(callMethod (.iface 179 v) "lych/rewrite.right" #[b]).run Try.prog w= .ok (.enter 156 #[v,b]) w:=by kernel_rfl
attribute [local go_sem] xK
theorem xM (v:Value) (w:World):(callMethod (.iface 179 v) "lych/rewrite.proto" #[]).run Try.prog w= .ok (.enter 155 #[v]) w:=by kernel_rfl
attribute [local go_sem] xM
theorem xN (v b:Value) (w:World):(callMethod (.iface 181 v) "lych/rewrite.right" #[b]).run Try.prog w= .ok (.enter 158 #[v,b]) w:=by kernel_rfl
attribute [local go_sem] xN
theorem xO (v:Value) (w:World):(callMethod (.iface 181 v) "lych/rewrite.proto" #[]).run Try.prog w= .ok (.enter 157 #[v]) w:=by kernel_rfl
attribute [local go_sem] xO
theorem xP (v b:Value) (w:World):(callMethod (.iface 183 v) "lych/rewrite.right" #[b]).run Try.prog w= .ok (.enter 161 #[v,b]) w:=by kernel_rfl
attribute [local go_sem] xP
theorem xQ (v:Value) (w:World):(callMethod (.iface 183 v) "lych/rewrite.proto" #[]).run Try.prog w= .ok (.enter 160 #[v]) w:=by kernel_rfl
attribute [local go_sem] xQ
theorem xR (v:Value) (w:World):(Instr.typeAssert (.iface 179 v) 130 179 false).run Try.prog w= .ok v w:=by kernel_rfl
attribute [local go_sem] xR
theorem xU (v:Value) (w:World):(Instr.typeAssert (.iface 181 v) 130 181 false).run Try.prog w= .ok v w:=by kernel_rfl
attribute [local go_sem] xU
theorem xW (v:Value) (w:World):(Instr.typeAssert (.iface 183 v) 130 183 false).run Try.prog w= .ok v w:=by kernel_rfl
attribute [local go_sem] xW
theorem xX (c0 c1 c2 c3:Value) (w:World):(Instr.field 179 (.agg #[c0,c1,c2,c3]) 0).run Try.prog w= .ok (.agg #[c0,c1,c2,c3]) w:=by kernel_rfl
attribute [local go_sem] xX
theorem xY (c0 c1 c2 c3 c4 c5 c6 c7 c8 c9:Value) (w:World):(Instr.field 181 (.agg #[c0,c1,c2,c3,c4,c5,c6,c7,c8,c9]) 0).run Try.prog w= .ok (.agg #[c0,c1,c2,c3,c4,c5,c6,c7,c8,c9]) w:=by kernel_rfl
attribute [local go_sem] xY
theorem xZ (c0 c1 c2 c3 c4:Value) (w:World):(Instr.field 183 (.agg #[c0,c1,c2,c3,c4]) 0).run Try.prog w= .ok (.agg #[c0,c1,c2,c3,c4]) w:=by kernel_rfl
attribute [local go_sem] xZ
theorem jT {P:Program} {fn:Func} {p u p2 u2:Tmp} {ty V7:TypeId} (h:fn.results= #[.cell p ty,.tmp u,.cell p2 V7,.tmp u2]) (tmps:Array Value) (w:World) (g g2:Nat) (t t2:TypeId) (cs cs2:Array Value) (fr fr2:Nat×Nat) (d d2:TypeDesc)
  (hp:tmps.getD p undef= .pointer (some ⟨g,0,none⟩)) (hg:w.heap[g]?=some (.cells cs t fr)) (hu:P.underlying ty=some d) (hd:(match d with| .struct _| .array _ _=>true|_=>false)=true) (hi:(P.info? ty).map (·.size)=some cs.size)
  (hp2:tmps.getD p2 undef= .pointer (some ⟨g2,0,none⟩)) (hg2:w.heap[g2]?=some (.cells cs2 t2 fr2)) (hu2:P.underlying V7=some d2) (hd2:(match d2 with| .struct _| .array _ _=>true|_=>false)=true) (hi2:(P.info? V7).map (·.size)=some cs2.size):
  (results fn tmps).run P w= .ok (.tuple #[.agg cs,tmps.getD u undef,.agg cs2,tmps.getD u2 undef]) w:=by
 have h1:tmps[p]?.getD undef= .pointer (some ⟨g,0,none⟩):=by simpa using hp
 have h2:tmps[p2]?.getD undef= .pointer (some ⟨g2,0,none⟩):=by simpa using hp2
 simp [results,h,h1,h2,asAddr,run_loadVar_row w g t ty cs fr d hg hu hd hi,run_loadVar_row w g2 t2 V7 cs2 fr2 d2 hg2 hu2 hd2 hi2]
theorem ku {P:Program} {fn:Func} {p p2 u2:Tmp} {ty V7:TypeId} (h:fn.results= #[.cell p ty,.cell p2 V7,.tmp u2]) (tmps:Array Value) (w:World) (g g2:Nat) (t t2:TypeId) (cs cs2:Array Value) (fr fr2:Nat×Nat) (d d2:TypeDesc)
  (hp:tmps.getD p undef= .pointer (some ⟨g,0,none⟩)) (hg:w.heap[g]?=some (.cells cs t fr)) (hu:P.underlying ty=some d) (hd:(match d with| .struct _| .array _ _=>true|_=>false)=true) (hi:(P.info? ty).map (·.size)=some cs.size)
  (hp2:tmps.getD p2 undef= .pointer (some ⟨g2,0,none⟩)) (hg2:w.heap[g2]?=some (.cells cs2 t2 fr2)) (hu2:P.underlying V7=some d2) (hd2:(match d2 with| .struct _| .array _ _=>true|_=>false)=true) (hi2:(P.info? V7).map (·.size)=some cs2.size):
  (results fn tmps).run P w= .ok (.tuple #[.agg cs,.agg cs2,tmps.getD u2 undef]) w:=by
 have h1:tmps[p]?.getD undef= .pointer (some ⟨g,0,none⟩):=by simpa using hp
 have h2:tmps[p2]?.getD undef= .pointer (some ⟨g2,0,none⟩):=by simpa using hp2
 simp [results,h,h1,h2,asAddr,run_loadVar_row w g t ty cs fr d hg hu hd hi,run_loadVar_row w g2 t2 V7 cs2 fr2 d2 hg2 hu2 hd2 hi2]
inductive RB where
 |no
 |udp (us ud uc:Int) (ub:List Int)
 |tcp (ts td tq ta tf tw tc tu:Int) (FP tb:List Int)
 |Gw (mt mc ms mr:Int) (mb:List Int)
structure LK where
 (a t pr i fl of_ s d:Int) (o b:List Int) (x:RB) (sp dp ff:Int) (inn:List S65) (e:Int)
def LK.err (e:Int):LK:=⟨0,0,0,0,0,0,0,0,[],[],.no,0,0,0,[],e⟩
def RB.V (w:World) (base:Nat) (v:Value):RB ->Prop
 | .no=>v= .nilIface
 | .udp us ud uc ub=>∃ v3:Value,v= .iface 179 (.agg #[.int .u16 us,.int .u16 ud,.int .u16 uc,v3]) /\ Kd.R (Kd.int .u8) 5 w base (fun _=>True) v3 ub
 | .tcp ts td tq ta tf tw tc tu FP tb=>∃ v8 v9:Value,v= .iface 181 (.agg #[.int .u16 ts,.int .u16 td,.int .u32 tq,.int .u32 ta,.int .u8 tf,.int .u16 tw,.int .u16 tc,.int .u16 tu,v8,v9]) /\ Kd.R (Kd.int .u8) 5 w base (fun _=>True) v8 FP /\ Kd.R (Kd.int .u8) 5 w base (fun _=>True) v9 tb
 | .Gw mt mc ms mr mb=>∃ v4:Value,v= .iface 183 (.agg #[.int .u8 mt,.int .u8 mc,.int .u16 ms,.int .u32 mr,v4]) /\ Kd.R (Kd.int .u8) 5 w base (fun _=>True) v4 mb
def Ee (k:Nat) (a t i fl of_ s d:Int) (o b:List Int):Option LK:=
 (lH.f b).bind fun ⟨us,ud,uc,ub,e⟩=>if e=0 then (uT.f k s d us ud uc ub).bind fun r=>if r=true then some ⟨a,t,17,i,fl,of_,s,d,o,b,.udp us ud uc ub,us,ud,0,[],0⟩ else some (LK.err 22) else some (LK.err e)
def Ef (k:Nat) (a t i fl of_ s d:Int) (o b:List Int):Option LK:=
 (tZ.f b).bind fun ⟨ts,td,tq,ta,tf,tw,tc,tu,FP,tb,e⟩=>if e=0 then (uY.f k s d ts td tq ta tf tw tc tu FP tb).bind fun r=>if r=true then some ⟨a,t,6,i,fl,of_,s,d,o,b,.tcp ts td tq ta tf tw tc tu FP tb,ts,td,tf,[],0⟩ else some (LK.err 22) else some (LK.err e)
def xh (k:Nat) (a t i fl of_ s d:Int) (o b:List Int):Option LK:=
 (kH.f b).bind fun ⟨mt,mc,ms,mr,mb,e⟩=>if e=0 then (sK.f k mt mc ms mr mb).bind fun r=>if r=true then
  (dJ.f k mb).bind fun ⟨l,ok⟩=>(oJ.f mt mc ms mr mb).bind fun ec=>if ec=true then some ⟨a,t,1,i,fl,of_,s,d,o,b,.Gw mt mc ms mr mb,mr / 65536 % 65536,mr / 65536 % 65536,0,[],0⟩
  else (wR.f mt mc ms mr mb).bind fun er=>if er=true then (if ok=true then some ⟨a,t,1,i,fl,of_,s,d,o,b,.Gw mt mc ms mr mb,0,0,0,l,0⟩ else some (LK.err 21)) else some (LK.err 21)
  else some (LK.err 22) else some (LK.err e)
def ry.f (k:Nat) (l:List Int):Option LK:=
 (dL.f k l).bind fun ⟨a,t,pr,i,fl,of_,s,d,o,b,e⟩=>if e=0 then
  if pr=17 then Ee k a t i fl of_ s d o b else if pr=6 then Ef k a t i fl of_ s d o b else if pr=1 then xh k a t i fl of_ s d o b else some (LK.err 21)
 else some (LK.err e)
def LK.Post (r:LK) (base:Nat) (w0:World) (e:Ending) (w':World):Prop:=
 ∃ v8 v9 vx vi:Value,e= .returned (.tuple #[.agg #[.int .u8 r.a,.int .u8 r.t,.int .u8 r.pr,.int .u16 r.i,.int .u8 r.fl,.int .u16 r.of_,.int .u32 r.s,.int .u32 r.d,v8,v9],vx,.agg #[.int .u8 r.pr,.int .u32 r.s,.int .u16 r.sp,.int .u32 r.d,.int .u16 r.dp,.int .u8 r.ff,vi],.int .i64 r.e]) /\ Kd.R (Kd.int .u8) 5 w' base (fun _=>True) v8 r.o /\ Kd.R (Kd.int .u8) 5 w' base (fun _=>True) v9 r.b /\ r.x.V w' base vx /\ Kd.R k65 65 w' base (fun _=>True) vi r.inn /\ Below base w0 w'
def look.R9.T:Bool×List (List Nat×List Nat):=(true,[([],[]),([],[]),([0,0],[0]),([2,0,2],[]),([1,3,0,1,2,3],[1]),([4,0,1,2,3,4],[])])
theorem look.R9.tab:rtab .any (opsOf Try.f69 9)=look.R9.T:=by kernel_rfl
theorem look.R9.bits:waitsOk look.R9.T.2 [0,0,1,5,15,31]=true:=by kernel_rfl
def look.R21.T:Bool×List (List Nat×List Nat):=(true,[([],[]),([0],[0]),([1],[1]),([],[]),([3],[3]),([4],[4]),([0,1,2],[]),([6,0,1,2],[6]),([7,2,0,1,2],[2,7]),([0,1,2,3,4,5,6,7,8],[]),([9,0,1,2,3,4,5,6,7,8],[9]),([10,5,8,0,1,2,3,4,5,6,7,8],[5,10])])
theorem look.R21.tab:rtab .any (opsOf Try.f69 21)=look.R21.T:=by kernel_rfl
theorem look.R21.bits:waitsOk look.R21.T.2 [0,1,3,0,8,24,7,71,199,511,1023,2047]=true:=by kernel_rfl
def look.YF.T:Bool×List (List Nat×List Nat):=(true,[([],[]),([],[]),([],[]),([0,0],[0]),([1,3,0,1,3],[1]),([2,4,0,1,2,3,4],[2]),([5,0,1,2,3,4,5],[])])
theorem look.YF.tab:rtab .any (opsOf Try.f69 25)=look.YF.T:=by kernel_rfl
theorem look.YF.bits:waitsOk look.YF.T.2 [0,0,0,1,11,31,63]=true:=by kernel_rfl
def look.R7.T:Bool×List (List Nat×List Nat):=(true,[([],[]),([],[]),([],[]),([0,0],[0]),([3,0,3],[]),([1,4,0,1,3,4],[1]),([2,5,0,1,2,3,4,5],[2])])
theorem look.R7.tab:rtab .any (opsOf Try.f69 7)=look.R7.T:=by kernel_rfl
theorem look.R7.bits:waitsOk look.R7.T.2 [0,0,0,1,9,27,63]=true:=by kernel_rfl
def look.R24.T:Bool×List (List Nat×List Nat):=(true,[([],[]),([0],[0]),([1],[1]),([],[]),([3],[3]),([4],[4]),([],[]),([6],[6]),([7],[7]),([0,1,2],[]),([9,0,1,2],[9]),([10,2,0,1,2],[2,10]),([0,1,2,3,4,5,9,10,11],[]),([12,0,1,2,3,4,5,9,10,11],[12]),([13,5,11,0,1,2,3,4,5,9,10,11],[5,13]),([0,1,2,3,4,5,6,7,8,9,10,11,12,13,14],[]),([15,8,14,0,1,2,3,4,5,6,7,8,9,10,11,12,13,14],[8,15])])
theorem look.R24.tab:rtab .any (opsOf Try.f69 24)=look.R24.T:=by kernel_rfl
theorem look.R24.bits:waitsOk look.R24.T.2 [0,1,3,0,8,24,0,64,192,7,519,1543,3647,7743,15935,32767,65535]=true:=by kernel_rfl
def look.R16.T:Bool×List (List Nat×List Nat):=(true,[([],[]),([0],[0]),([1],[1]),([2],[2]),([],[]),([4],[4]),([5],[5]),([6],[6]),([0,1,2,3],[]),([8,0,1,2,3],[8]),([9,3,0,1,2,3],[3,9]),([0,1,2,3,4,5,6,7,8,9,10],[]),([11,0,1,2,3,4,5,6,7,8,9,10],[11]),([12,7,10,0,1,2,3,4,5,6,7,8,9,10],[7,12])])
theorem look.R16.tab:rtab .any (opsOf Try.f69 16)=look.R16.T:=by kernel_rfl
theorem look.R16.bits:waitsOk look.R16.T.2 [0,1,3,7,0,16,48,112,15,271,783,2047,4095,8191]=true:=by kernel_rfl
def look.R18.T:Bool×List (List Nat×List Nat):=(true,[([],[]),([],[]),([0,0],[0]),([2,0,2],[]),([1,3,0,1,2,3],[1]),([4,0,1,2,3,4],[])])
theorem look.R18.tab:rtab .any (opsOf Try.f69 18)=look.R18.T:=by kernel_rfl
theorem look.R18.bits:waitsOk look.R18.T.2 [0,0,1,5,15,31]=true:=by kernel_rfl
def look.R4.T:Bool×List (List Nat×List Nat):=(true,[([],[]),([],[]),([],[]),([0,0],[0]),([3,0,3],[]),([1,4,0,1,3,4],[1]),([2,5,0,1,2,3,4,5],[2])])
theorem look.R4.tab:rtab .any (opsOf Try.f69 4)=look.R4.T:=by kernel_rfl
theorem look.R4.bits:waitsOk look.R4.T.2 [0,0,0,1,9,27,63]=true:=by kernel_rfl
attribute [local go_sem] dV dW gI gJ dG dH dX dY
def Adb.f (k:Nat) (a0:Int) (a1:Int) (fH:Int) (fJ:Int) (fF:Int) (lK:Int) (lM:Int) (lN:Int) (oK:Int) (lQ:Int) (kE:List Int) (kF:List Int):Option (Int):=(uj.f k a0 a1 fH fJ fF lK lM lN 0 lQ kE kF).bind fun AfP=>(if AfP.2=true then (some (Go.bits .xor .u16 IntKind.u16.max AfP.1)) else (some 0))
def Ak.f (k:Nat) (aI:Int) (aV:Int) (aX:Int) (bn:Int) (bY:List Int):Option (Int):=(kJ.f aI aV 0 bn bY).bind fun RI=>(if RI.2=0 then ((uy.f k RI.1).bind fun AaB=>(some AaB)) else (some 0))
theorem Ak.calls (k:Nat) (aI:Int) (aV:Int) (aX:Int) (bn:Int) (iO:Option Addr) (iP:Nat) (bY:List Int) (r:Int) (w:World) (nI:Kd.C (Kd.int .u8) w iO bY.length bY) (nJ:bY.length<=iP) (h:Ak.f k aI aV aX bn bY=some r):
  Calls Try.prog 111 #[.agg #[.int .u8 aI,.int .u8 aV,.int .u16 aX,.int .u32 bn,.slice iO bY.length iP]] w fun e w'=>e= .returned (.int .u16 r) /\ Below w.heap.size w w':=by
 have uQ:=Try.underlying101;have uu:=Aside0.mk nI;have uS:=Aside0.mk nJ;clear nI nJ;have HB:=jy w;have H:((kJ.f aI aV 0 bn bY).bind fun RI=>(if RI.2=0 then ((uy.f k RI.1).bind fun AaB=>(some AaB)) else (some 0)))=some r:=h;clear h;replace H:=dM H;obtain ⟨⟨Adc,UC⟩,Aw,H⟩:=H
 (try dsimp -simprocs only at H)
 have A2:=Aside0.mk Aw;clear Aw
 by_cases c3:UC=0
 ·rw [ah c3] at H
  have tY:(UC==0)=true:=jf c3;have vI:(UC !=0)=false:=oM c3;clear c3;replace H:=dM H;obtain ⟨AaB,yz,H⟩:=H
  (try dsimp -simprocs only at H)
  have A4:=Aside0.mk yz;clear yz;obtain rfl:=eF H
  go_enter Try.func111,Try.ntmps111
  go_wp2_with (first|((with_reducible refine gate_dst (N:=1) rfl ?_);refine box_event ?hg (N:=1) ?hd (cs:= #[.int .u8 aI,.int .u8 aV,.int .u16 aX,.int .u32 bn,.slice iO bY.length iP]) (t:=101) ?hr ?_;(case hd=>rfl);(case hg=>rfl);(case hr=>first|(go_simp;done)|(go_simp;rfl));intro xk hg w5 hbox hb;have ay:=Aside0.mk (ag (bz HB) hb);have aC:=Aside0.mk (hbox);have bg:=Aside0.mk ((by rw [hg];exact (below_size (bz HB)):w.heap.size<=xk));have dm:=Aside0.mk ((by rw [hg];exact (below_size (bz HB)):w.heap.size<=xk));clear HB;have HB:=ay;have o8:=aC;have Ano:=bg;have Anp:=dm;clear ay aC bg dm;clear hb hbox hg;have OB:w5.cell? ⟨xk,0,none⟩=some (.int .u8 aI):=cz o8.out 0 rfl;have OC:w5.cell? ⟨xk,1,none⟩=some (.int .u8 aV):=cz o8.out 1 rfl;have OD:w5.cell? ⟨xk,2,none⟩=some (.int .u16 aX):=cz o8.out 2 rfl;have OE:w5.cell? ⟨xk,3,none⟩=some (.int .u32 bn):=cz o8.out 3 rfl;have Aam:w5.cell? ⟨xk,4,none⟩=some (.slice iO bY.length iP):=cz o8.out 4 rfl;have OG:=blk_frozen o8.out 0;have OH:=blk_frozen o8.out 1;have OI:=blk_frozen o8.out 2;have OJ:=blk_frozen o8.out 3;have Aan:=blk_frozen o8.out 4)|((with_reducible refine ai (f:=112) rfl ?_);refine gL 8 Try.func112 #[.agg #[.int .u8 aI,.int .u8 aV,.int .u16 0,.int .u32 bn,.slice iO bY.length iP]] ?_;(with_reducible refine (kJ.calls aI aV 0 bn _ _ bY Adc UC _ ?au ?ax A2.out).mono ?_);(case au=>exact Kd.aJ uu.out (bz HB));(case ax=>exact uS.out);rintro e w7 ⟨Aul,rfl,ho0,hb⟩;refine ⟨_,rfl, ?_⟩;have ay:=Aside0.mk (Kd.R_lower ho0 (below_size (bz HB)));have aC:=Aside0.mk (aZ (g:=xk) (o:= .cells #[.int .u8 aI,.int .u8 aV,.int .u16 0,.int .u32 bn,.slice iO bY.length iP] 101 (0,0)) (by (with_reducible repeat (first|refine aH ?_ _|refine az ?_|refine aG ?_ _));refine bH (cs:= #[.int .u8 aI,.int .u8 aV,.int .u16 aX,.int .u32 bn,.slice iO bY.length iP]) ?_ 2 _ rfl;(with_reducible repeat (first|refine aH ?_ _|refine az ?_|refine aG ?_ _));exact o8.out) hb);have bg:=Aside0.mk (ag (bz HB) hb);clear o8;clear HB;have KN:=ay;have o8:=aC;have HB:=bg;clear ay aC bg;(try clear hb);(try clear hb2);(try clear hk);(try clear hi);(try clear ho0);obtain ⟨Ao8,co8,eo8⟩:=Kd.dN KN.out;subst eo8)|((with_reducible refine ai (f:=90) rfl ?_);refine gL 14 Try.func90 #[.slice Ao8 Adc.length co8] ?_;(with_reducible refine (uy.calls k _ _ Adc AaB _ ?au ?ax A4.out).mono ?_);(case au=>repeat (first|exact (Kd.R_reads' KN.out).2.2|(with_reducible refine Kd.iL ?_ _)|(with_reducible refine Kd.iD ?_ _)|(with_reducible refine Kd.jE ?_)));(case ax=>exact (Kd.R_reads' KN.out).2.1);rintro e w9 ⟨rfl,hb⟩;refine ⟨_,rfl, ?_⟩;have ay:=Aside0.mk (Kd.jd (Kd.rz KN) hb);have aC:=Aside0.mk (aZ (kz o8) hb);have bg:=Aside0.mk (ag (bz HB) hb);clear KN;clear o8;clear HB;have KN:=ay;have o8:=aC;have HB:=bg;clear ay aC bg;(try clear hb);(try clear hb2);(try clear hk);(try clear hi)))
  go_ret
  exact ⟨by first|rfl|(simp [ae,af]<;>rfl)|(simp [*,ae,af]<;>rfl),bz HB⟩
 ·rw [aj c3] at H
  have tY:(UC==0)=false:=iM c3;have vI:(UC !=0)=true:=pq c3;obtain rfl:=eF H
  go_enter Try.func111,Try.ntmps111
  go_wp2_with (first|((with_reducible refine gate_dst (N:=1) rfl ?_);refine box_event ?hg (N:=1) ?hd (cs:= #[.int .u8 aI,.int .u8 aV,.int .u16 aX,.int .u32 bn,.slice iO bY.length iP]) (t:=101) ?hr ?_;(case hd=>rfl);(case hg=>rfl);(case hr=>first|(go_simp;done)|(go_simp;rfl));intro xk hg w10 hbox hb;have ay:=Aside0.mk (ag (bz HB) hb);have aC:=Aside0.mk (hbox);have bg:=Aside0.mk ((by rw [hg];exact (below_size (bz HB)):w.heap.size<=xk));have dm:=Aside0.mk ((by rw [hg];exact (below_size (bz HB)):w.heap.size<=xk));clear HB;have HB:=ay;have o8:=aC;have Ano:=bg;have Anp:=dm;clear ay aC bg dm;clear hb hbox hg;have DW:w10.cell? ⟨xk,0,none⟩=some (.int .u8 aI):=cz o8.out 0 rfl;have DX:w10.cell? ⟨xk,1,none⟩=some (.int .u8 aV):=cz o8.out 1 rfl;have DY:w10.cell? ⟨xk,2,none⟩=some (.int .u16 aX):=cz o8.out 2 rfl;have DZ:w10.cell? ⟨xk,3,none⟩=some (.int .u32 bn):=cz o8.out 3 rfl;have O1:w10.cell? ⟨xk,4,none⟩=some (.slice iO bY.length iP):=cz o8.out 4 rfl;have D9:=blk_frozen o8.out 0;have Ea:=blk_frozen o8.out 1;have Eb:=blk_frozen o8.out 2;have Ec:=blk_frozen o8.out 3;have O3:=blk_frozen o8.out 4)|((with_reducible refine ai (f:=112) rfl ?_);refine gL 8 Try.func112 #[.agg #[.int .u8 aI,.int .u8 aV,.int .u16 0,.int .u32 bn,.slice iO bY.length iP]] ?_;(with_reducible refine (kJ.calls aI aV 0 bn _ _ bY Adc UC _ ?au ?ax A2.out).mono ?_);(case au=>exact Kd.aJ uu.out (bz HB));(case ax=>exact uS.out);rintro e w12 ⟨Aul,rfl,ho0,hb⟩;refine ⟨_,rfl, ?_⟩;have ay:=Aside0.mk (Kd.R_lower ho0 (below_size (bz HB)));have aC:=Aside0.mk (aZ (g:=xk) (o:= .cells #[.int .u8 aI,.int .u8 aV,.int .u16 0,.int .u32 bn,.slice iO bY.length iP] 101 (0,0)) (by (with_reducible repeat (first|refine aH ?_ _|refine az ?_|refine aG ?_ _));refine bH (cs:= #[.int .u8 aI,.int .u8 aV,.int .u16 aX,.int .u32 bn,.slice iO bY.length iP]) ?_ 2 _ rfl;(with_reducible repeat (first|refine aH ?_ _|refine az ?_|refine aG ?_ _));exact o8.out) hb);have bg:=Aside0.mk (ag (bz HB) hb);clear o8;clear HB;have KN:=ay;have o8:=aC;have HB:=bg;clear ay aC bg;(try clear hb);(try clear hb2);(try clear hk);(try clear hi);(try clear ho0)))
  go_ret
  exact ⟨by first|rfl|(simp [ae,af]<;>rfl)|(simp [*,ae,af]<;>rfl),bz HB⟩
def kY.f (l0:List Int):Option (List Int×Int):=if 2<=(l0.length:Int) then ((dK.f (l0.drop 2)).bind fun BD=>(if 0<=BD then (if BD<=(l0.length:Int) then ((dh.f (l0.take (BD:Int).toNat)).bind fun AaC=>(if 0<(l0.length:Int) then (some (AaC,wrap64 (4*(wrap64 (Go.bits .and .u8 (rd l0 0) 15))))) else (none))) else (none)) else (none))) else (none)
def kY.T1:Bool×List (List Nat×List Nat):=(true,[([],[]),([],[]),([1],[1]),([2],[2]),([0,3],[0,3]),([4,3],[4]),([],[]),([6],[6]),([7],[7]),([8],[8]),([9],[9]),([10],[10]),([5,5,0,1,2,3,4,5],[5]),([11,12,0,1,2,3,4,5,6,7,8,9,10,11,12],[11])])
def kY.B1:List Nat:=[0,0,2,6,15,31,0,64,192,448,960,1984,63,8191]
theorem kY.AhE:rtab .any (opsOf Try.f77 1)=kY.T1:=by kernel_rfl
theorem kY.Zp:waitsOk kY.T1.2 kY.B1=true:=by kernel_rfl
theorem kY.calls (A0:Option Addr) (c0:Nat) (l0:List Int) (r1:List Int) (r2:Int) (w:World) (hr0:Kd.C (Kd.int .u8) w A0 l0.length l0) (hc0:l0.length<=c0) (h:kY.f l0=some (r1,r2)):
  Calls Try.prog 77 #[.slice A0 l0.length c0] w fun e w'=>∃ uP:Value,e= .returned (.tuple #[uP,.int .i64 r2]) /\ Kd.R (Kd.int .u8) 5 w' w.heap.size (fun _=>True) uP r1 /\ Below w.heap.size w w':=by
 have HR0:=Aside0.mk hr0;have mg:=Aside0.mk hc0;clear hr0 hc0;have HB:=jy w;have H:(if 2<=(l0.length:Int) then ((dK.f (l0.drop 2)).bind fun BD=>(if 0<=BD then (if BD<=(l0.length:Int) then ((dh.f (l0.take (BD:Int).toNat)).bind fun AaC=>(if 0<(l0.length:Int) then (some (AaC,wrap64 (4*(wrap64 (Go.bits .and .u8 (rd l0 0) 15))))) else (none))) else (none)) else (none))) else (none))=some (r1,r2):=h;clear h
 by_cases c2:2<=(l0.length:Int)
 ·rw [ah c2] at H
  have nV:=eq_true c2;have qQ:decide (2<=(l0.length:Int))=true:=bJ c2;clear c2;replace H:=dM H;obtain ⟨BD,CB,H⟩:=H
  (try dsimp -simprocs only at H)
  have A3:=Aside0.mk CB;clear CB
  by_cases c4:0<=BD
  ·rw [ah c4] at H
   have qE:=eq_true c4;have Eh:decide (0<=BD)=true:=bJ c4;clear c4
   by_cases c5:BD<=(l0.length:Int)
   ·rw [ah c5] at H
    have qR:=eq_true c5;have wO:decide (BD<=(l0.length:Int))=true:=bJ c5;clear c5;replace H:=dM H;obtain ⟨AaC,Ce,H⟩:=H
    (try dsimp -simprocs only at H)
    have A6:=Aside0.mk Ce;clear Ce
    by_cases c7:0<(l0.length:Int)
    ·rw [ah c7] at H
     have Fe:decide (0<(l0.length:Int))=true:=bJ c7;have AcK:decide (0<l0.length)=true:=bJ (by omega);clear c7;simp only [Option.some.injEq,Prod.mk.injEq] at H
     obtain ⟨rfl,rfl⟩:=H
     go_enter Try.func77,Try.ntmps77
     try go_wp2
     have ay:=Aside0.mk (below_drew1 HB.out);clear HB;have HB:=ay;clear ay;obtain ⟨i09,Y9,_,Za,_⟩:=info_parts info5;obtain ⟨A9,Alp,hA9,hC9⟩:=ja (P:=Try.prog) (Value.int .u8) 0 23 5 .i64 Try.underlying23 Y9 Za A0 c0 l0 2 (by omega) je mg.out;have AfQ:=Aside0.mk (Kd.dR (h1:=fun _=>rfl) (hA9 _ (Kd.dO HR0.out)));have Anq:=Aside0.mk hC9;clear hA9 hC9 Y9 Za;have Ai4:0<=(0:Int):=(by omega)
     have Ai5:0<(l0.length:Int):=je;obtain ⟨AaD,Aum,BF⟩:=Kd.dU HR0.out 0 Ai4 Ai5;have yC:=BF
     (try rw [show ((0:Int)).toNat=0 from rfl] at yC)
     (try rw [show 0*1=0 from rfl] at yC)
     (try rw [Addr.add_zero'] at yC)
     cases Aum
     have Axq:(0<l0.length)=True:=eq_true (by omega)
     (try rw [show ((0:Int)).toNat=0 from rfl] at BF)
     (try rw [Addr.add_zero'] at BF)
     replace BF:=(HB.out.cell (dS w _ BF)).trans BF;replace Ai4:=eq_true Ai4;replace Ai5:=eq_true Ai5;refine start_ (n:=14) (S:=fun w'=>w'.cell? AaD=some (.int .u8 (rd l0 0))) (ds:=[]) #[false,false,false,false,false,false,false,false,false,false,false,false,false,false] (by kernel_rfl) rfl rfl (((HB.out.cell (dS w _ yC)).trans yC)) (fun hHeld=> ?_);refine with_tabW kY.AhE kY.Zp (fun HT_ HW_=> ?_);generalize w.drew=w8 at HB AfQ BF hHeld|-
     refine pz 0 4 HT_ ?_;refine pz 1 5 HT_ ?_;refine pz 2 6 HT_ ?_;refine pz 6 10 HT_ ?_;refine pz 7 11 HT_ ?_;refine tz 8 12 HT_ HW_ hHeld ?_;refine pz 9 13 HT_ ?_;refine pz 10 14 HT_ ?_;refine pz 11 15 HT_ ?_;refine oz 3 (some 7) HT_ (fun K hK=> ?_);refine goes_ Try.func87 (by kernel_rfl) rfl #[.slice A9 (l0.drop 2).length (c0 - 2)] (by rfl) rfl rfl (by (try simp only [List.map_toArray,List.map_cons,List.map_nil]);first|done|(rw [show (l0.drop 2).length=(l0.length - 2) from List.length_drop]<;>rfl)|rfl|(simp only [List.length_drop,List.length_take];rfl)|(go_simp;done)|(simp [Act.eval,IntKind.signed];done)|(simp [Act.eval,IntKind.signed];rfl)) ?_
     with_reducible refine (dK.calls _ _ (l0.drop 2) BD _ ?au ?ax A3.out).mono ?_
     (case au=>exact Kd.aJ AfQ.out (bz HB))
     (case ax=>exact Anq.out)
     rintro e w' ⟨rfl,⟨nd,rfl⟩⟩;refine ⟨_,rfl, ?_⟩;obtain ⟨Azj,AfR,_,AfS,_⟩:=info_parts info5;obtain ⟨Aun,hA10,Anr⟩:=uA (P:=Try.prog) (Value.int .u8) 0 23 5 .u16 Try.underlying23 AfR AfS (some AaD) c0 l0 BD je je mg.out;have Ans:=Aside0.mk (Kd.dR (h1:=fun _=>rfl) (hA10 _ (Kd.dO HR0.out)));have Ant:=Aside0.mk Anr;clear hA10 Anr AfR AfS;refine hK.out _ _ (((HB.out.cell (dS w _ yC)).trans yC)) (fun hHeld=> ?_);clear hK K;refine nz 7 ?_;refine pz 4 8 HT_ ?_;refine oz 5 (some 9) HT_ (fun K hK=> ?_)
     refine goes_ Try.func97 (by kernel_rfl) rfl #[.slice (some AaD) (l0.take (BD:Int).toNat).length c0] (by rfl) rfl rfl (by (try simp only [List.map_toArray,List.map_cons,List.map_nil]);first|done|(rw [show (l0.take (BD:Int).toNat).length=BD.toNat from (by rw [List.length_take];have h_:(BD:Int)<=(l0.length:Int):=je;omega)]<;>rfl)|rfl|(simp only [List.length_drop,List.length_take];rfl)|(go_simp;done)|(simp [Act.eval,IntKind.signed];done)|(simp [Act.eval,IntKind.signed];rfl)) ?_
     with_reducible refine (dh.calls _ _ (l0.take (BD:Int).toNat) AaC _ ?au ?ax A6.out).mono ?_
     (case au=>exact Kd.aJ Ans.out (bz HB))
     (case ax=>exact Ant.out)
     rintro e w11 ⟨Azk,rfl,ho0,hb⟩;refine ⟨_,rfl, ?_⟩;have ay:=Aside0.mk (Kd.R_lower ho0 (below_size (bz HB)));have aC:=Aside0.mk (ag (bz HB) hb);clear HB;have Anu:=ay;have HB:=aC;clear ay aC
     (try clear hb)
     (try clear hb2)
     (try clear hk)
     (try clear hi)
     (try clear ho0)
     refine hK.out _ _ (((HB.out.cell (dS w _ yC)).trans yC)) (fun hHeld=> ?_);clear hK K;refine nz 9 ?_;refine pz 12 2 HT_ ?_;refine pz 13 3 HT_ ?_;refine dz HT_ ?_
     try go_wp2
     go_ret2
     exact ⟨_,by first|rfl|(simp [ae,af]<;>rfl)|(simp [*,ae,af]<;>rfl),by (with_reducible repeat (first|apply Kd.ik|apply Kd.gV|apply Kd.iq));exact Anu.out,bz HB⟩
    ·rw [aj c7] at H
     cases H
   ·rw [aj c5] at H
    cases H
  ·rw [aj c4] at H
   cases H
 ·rw [aj c2] at H
  cases H
attribute [local go_sem] xK
attribute [local go_sem] xM
attribute [local go_sem] xN
attribute [local go_sem] xO
attribute [local go_sem] xP
attribute [local go_sem] xQ
attribute [local go_sem] xR
attribute [local go_sem] xU
attribute [local go_sem] xW
attribute [local go_sem] xX
attribute [local go_sem] xY
attribute [local go_sem] xZ
theorem RB.Jd {w w1:World} {base:Nat} {v:Value} {x:RB} (h:x.V w base v) (hb:Below w.heap.size w w1):x.V w1 base v:=by
 cases x with
 |no=>exact h
 |udp=>obtain ⟨v3,e,h3⟩:=h;exact ⟨v3,e,Kd.jd h3 hb⟩
 |tcp=>obtain ⟨v8,v9,e,h8,h9⟩:=h;exact ⟨v8,v9,e,Kd.jd h8 hb,Kd.jd h9 hb⟩
 |Gw=>obtain ⟨v4,e,h4⟩:=h;exact ⟨v4,e,Kd.jd h4 hb⟩
theorem RB.Anv {W w1:World} {base:Nat} {v:Value} {x:RB} {g t:Nat} {ds:Array Value} (h:Off W w1 g) (hx:x.V W base v) (hg:W.heap[g]?=some (.cells ds t (0,0))) (ht:5≠t):x.V w1 base v:=by
 cases x with
 |no=>exact hx
 |udp=>obtain ⟨v3,e,h3⟩:=hx;exact ⟨v3,e,Off.R h h3 hg ht⟩
 |tcp=>obtain ⟨v8,v9,e,h8,h9⟩:=hx;exact ⟨v8,v9,e,Off.R h h8 hg ht,Off.R h h9 hg ht⟩
 |Gw=>obtain ⟨v4,e,h4⟩:=hx;exact ⟨v4,e,Off.R h h4 hg ht⟩
theorem mV {w w1:World} {base:Nat} {v:Value} {x:RB} (h:Aside0 (x.V w base v)) (hb:Below w.heap.size w w1):Aside0 (x.V w1 base v):=⟨RB.Jd h.out hb⟩
theorem oV {W w1:World} {base:Nat} {v:Value} {x:RB} {g t:Nat} {ds:Array Value} (o:Off W w1 g) (h:Aside0 (x.V W base v)) (hg:Aside0 (W.heap[g]?=some (.cells ds t (0,0)))) (ht:5≠t):Aside0 (x.V w1 base v):=⟨RB.Anv o h.out hg.out ht⟩
def pointed.f (k:Nat) (si sp di dp:Int):RB ->Option (List Int)
 | .no=>none
 | .udp _ _ uc ub=>if uc=0 then (ug.f sp dp uc ub).bind fun r=>some r.1 else (Ada.f k si di sp dp uc ub).bind fun c=>(ug.f sp dp c ub).bind fun r=>some r.1
 | .tcp _ _ tq ta tf tw tc tu FP tb=>(Adb.f k si di sp dp tq ta tf tw tc tu FP tb).bind fun c=>(gZ.f k sp dp tq ta tf tw c tu FP tb).bind fun r=>some r.1
 | .Gw mt mc ms mr mb=>(oJ.f mt mc ms mr mb).bind fun ec=>if ec=true then (Ak.f k mt mc ms (Go.bits .or .u32 (Go.bits .and .u32 mr 65535) (sp % 4294967296*65536 % 4294967296)) mb).bind fun c=>(kJ.f mt mc c (Go.bits .or .u32 (Go.bits .and .u32 mr 65535) (sp % 4294967296*65536 % 4294967296)) mb).bind fun r=>some r.1
  else (Ak.f k mt mc ms mr mb).bind fun c=>(kJ.f mt mc c mr mb).bind fun r=>some r.1
def pointed.R10.T:Bool×List (List Nat×List Nat):=(true,[([],[]),([0],[0]),([],[]),([2],[2]),([0,1],[]),([4,1,0,1],[1,4]),([0,1,2,3,4,5],[]),([6,3,5,0,1,2,3,4,5],[3,6])])
theorem pointed.R10.tab:rtab .any (opsOf Try.f70 10)=pointed.R10.T:=by kernel_rfl
theorem pointed.R10.bits:waitsOk pointed.R10.T.2 [0,1,0,4,3,19,63,127]=true:=by kernel_rfl
def pointed.R16.T:Bool×List (List Nat×List Nat):=(true,[([],[]),([0],[0]),([],[]),([2],[2]),([0,1],[]),([4,1,0,1],[1,4]),([0,1,2,3,4,5],[]),([6,3,5,0,1,2,3,4,5],[3,6])])
theorem pointed.R16.tab:rtab .any (opsOf Try.f70 16)=pointed.R16.T:=by kernel_rfl
theorem pointed.R16.bits:waitsOk pointed.R16.T.2 [0,1,0,4,3,19,63,127]=true:=by kernel_rfl
attribute [local go_sem] xK
attribute [local go_sem] xM
attribute [local go_sem] xN
attribute [local go_sem] xO
attribute [local go_sem] xP
attribute [local go_sem] xQ
attribute [local go_sem] xR
attribute [local go_sem] xU
attribute [local go_sem] xW
attribute [local go_sem] xX
attribute [local go_sem] xY
attribute [local go_sem] xZ
def XM.R2.T:Bool×List (List Nat×List Nat):=(true,[([],[]),([],[]),([],[]),([0,0],[0]),([1,3,0,1,3],[1]),([2,4,0,1,2,3,4],[2])])
theorem XM.R2.tab:rtab .any (opsOf Try.f36 2)=XM.R2.T:=by kernel_rfl
theorem XM.R2.bits:waitsOk XM.R2.T.2 [0,0,0,1,11,31]=true:=by kernel_rfl
def LK.Told (r:LK) (base:Nat) (w0:World) (e:Ending) (w':World):Prop:=
 ∃ v8 v9 vi:Value,e= .returned (.tuple #[.agg #[.int .u8 r.a,.int .u8 r.t,.int .u8 r.pr,.int .u16 r.i,.int .u8 r.fl,.int .u16 r.of_,.int .u32 r.s,.int .u32 r.d,v8,v9],.agg #[.int .u8 r.pr,.int .u32 r.s,.int .u16 r.sp,.int .u32 r.d,.int .u16 r.dp,.int .u8 r.ff,vi],.int .i64 r.e]) /\ Kd.R (Kd.int .u8) 5 w' base (fun _=>True) v8 r.o /\ Kd.R (Kd.int .u8) 5 w' base (fun _=>True) v9 r.b /\ Kd.R k65 65 w' base (fun _=>True) vi r.inn /\ Below base w0 w'
theorem rewrite_Look.via (A:Option Addr) (c:Nat) (l:List Int) (r:LK) (w:World) (hC:Kd.C (Kd.int .u8) w A l.length l) (hL:l.length<=c) (h69:∀ w2:World,Kd.C (Kd.int .u8) w2 A l.length l ->Calls Try.prog 69 #[.slice A l.length c] w2 fun e w'=>r.Post w2.heap.size w2 e w'):
  Calls Try.prog 36 #[.slice A l.length c] w fun e w'=>r.Told w.heap.size w e w':=by
 have hu65:=Try.underlying65;have hu73:=Try.underlying73;have hu76:=Try.underlying76;obtain ⟨a,t,pr,i,fl,of_,s,d,o,b,x,sp,dp,ff,inn,e_⟩:=r;have HB:=jy w;have HC:=Aside0.mk hC;have HL:=Aside0.mk hL;have HP:=Aside0.mk h69;have HI65:Aside0 ((Try.prog.info? 65).map (·.size)=some 2):=⟨by kernel_rfl⟩
 have HI73:Aside0 ((Try.prog.info? 73).map (·.size)=some 10):=⟨by kernel_rfl⟩
 have HI76:Aside0 ((Try.prog.info? 76).map (·.size)=some 7):=⟨by kernel_rfl⟩
 clear hC hL h69
 go_enter Try.func36,Try.ntmps36
 go_upto_region 1 with (first|((with_reducible refine gate_dst (N:=2) rfl ?_);refine box_event ?hg_ (N:=2) ?hd_ (cs:= #[.int .u8 0,.int .u8 0,.int .u8 0,.int .u16 0,.int .u8 0,.int .u16 0,.int .u32 0,.int .u32 0,.slice none 0 0,.slice none 0 0]) (t:=73) ?hr_ ?_;(case hd_=>rfl);(case hg_=>rfl);(case hr_=>first|(go_simp;done)|(go_simp;rfl));intro gr hgg_ w1 hbox_ hbb_;have GHXr:=Aside0.mk (show w.heap.size<=gr by rw [hgg_];exact below_size HB.out);have HXr:=Aside0.mk hbox_;have hb_:=hbb_;replace HB:=mB HB hb_;clear hb_;clear hgg_ hbox_ hbb_)|((with_reducible refine gate_dst (N:=3) rfl ?_);refine box_event ?hg_ (N:=3) ?hd_ (cs:= #[.int .u8 0,.int .u32 0,.int .u16 0,.int .u32 0,.int .u16 0,.int .u8 0,.slice none 0 0]) (t:=76) ?hr_ ?_;(case hd_=>rfl);(case hg_=>rfl);(case hr_=>first|(go_simp;done)|(go_simp;rfl));intro gq hgg_ w2 hbox_ hbb_;have GHXq:=Aside0.mk (show w.heap.size<=gq by rw [hgg_];exact below_size HB.out);have HXq:=Aside0.mk hbox_;have hb_:=hbb_;replace HB:=mB HB hb_;replace HXr:=mX HXr hb_;clear hb_;clear hgg_ hbox_ hbb_))
 go_wp2_with fail
 refine (HP.out _ (Kd.aJ HC.out HB.out)).mono ?_;rintro ev w3 hpost;obtain ⟨vo,vb,vx,vi,rfl,ho,ho2,hx,hi,hb⟩:=hpost;dsimp only at ho ho2 hx hi
 have bW:=qP ho HB;obtain ⟨Ao,co,rfl,_,_⟩:=Kd.R_reads ho;clear ho;have HRb:=qP ho2 HB;obtain ⟨Ab,cb,rfl,_,_⟩:=Kd.R_reads ho2;clear ho2;have HRi:=Aside0.mk (Kd.R_lower hi (below_size HB.out));obtain ⟨Ai,ci,rfl,_,_⟩:=Kd.R_reads hi;clear hi;clear hx;have hb_:=hb;replace HB:=mB HB hb_;replace HXr:=mX HXr hb_;replace HXq:=mX HXq hb_;clear hb_;clear hb HP
 (try dsimp only)
 go_upto_region 2 with (first|((with_reducible refine gate_dst (N:=5) rfl ?_);refine box_event ?hg_ (N:=5) ?hd_ (cs:= #[.int .u8 0,.int .u8 0,.int .u8 0,.int .u16 0,.int .u8 0,.int .u16 0,.int .u32 0,.int .u32 0,.slice none 0 0,.slice none 0 0]) (t:=73) ?hr_ ?_;(case hd_=>rfl);(case hg_=>rfl);(case hr_=>first|(go_simp;done)|(go_simp;rfl));intro gp hgg_ w4 hbox_ hbb_;have GHXp:=Aside0.mk (show w.heap.size<=gp by rw [hgg_];exact below_size HB.out);have HXp:=Aside0.mk hbox_;have KO:Aside0 (gr≠gp):=⟨by rw [hgg_];exact (blk_less HXr).out⟩;have hb_:=hbb_;replace HB:=mB HB hb_;replace HXr:=mX HXr hb_;replace HXq:=mX HXq hb_;replace bW:=mR bW hb_;replace HRb:=mR HRb hb_;replace HRi:=mI HRi hb_;clear hb_;clear hgg_ hbox_ hbb_)|((with_reducible refine gate_dst (N:=7) rfl ?_);refine box_event ?hg_ (N:=7) ?hd_ (cs:= #[.int .u8 0,.int .u32 0,.int .u16 0,.int .u32 0,.int .u16 0,.int .u8 0,.slice none 0 0]) (t:=76) ?hr_ ?_;(case hd_=>rfl);(case hg_=>rfl);(case hr_=>first|(go_simp;done)|(go_simp;rfl));intro gf hgg_ w5 hbox_ hbb_;have GHXf:=Aside0.mk (show w.heap.size<=gf by rw [hgg_];exact below_size HB.out);have HXf:=Aside0.mk hbox_;have bP:Aside0 (gq≠gf):=⟨by rw [hgg_];exact (blk_less HXq).out⟩;have hb_:=hbb_;replace HB:=mB HB hb_;replace HXr:=mX HXr hb_;replace HXq:=mX HXq hb_;replace bW:=mR bW hb_;replace HRb:=mR HRb hb_;replace HRi:=mI HRi hb_;replace HXp:=mX HXp hb_;clear hb_;clear hgg_ hbox_ hbb_)|((refine rw_putrow rfl rfl rfl rfl rfl HXp.out HI73.out rfl (by simp [Value.oneCell']) ?_);intro w6 hs_ off_;replace HXr:=oN off_ HXr KO;replace HXq:=oX off_ HXq HXp (by decide);replace bW:=oR off_ bW HXp (by decide);replace HRb:=oR off_ HRb HXp (by decide);replace HRi:=oI off_ HRi HXp (by decide);replace HXf:=oX off_ HXf HXp (by decide);replace HB:=oB off_ HB GHXp;clear off_;replace HXp:=Aside0.mk hs_;clear hs_)|((refine rw_putrow rfl rfl rfl rfl rfl HXf.out HI76.out rfl (by simp [Value.oneCell']) ?_);intro w7 hs_ off_;replace HXr:=oX off_ HXr HXf (by decide);replace HXq:=oN off_ HXq bP;replace bW:=oR off_ bW HXf (by decide);replace HRb:=oR off_ HRb HXf (by decide);replace HRi:=oI off_ HRi HXf (by decide);replace HXp:=oX off_ HXp HXf (by decide);replace HB:=oB off_ HB GHXf;clear off_;replace HXf:=Aside0.mk hs_;clear hs_))
 refine start_ (n:=6) (S:=fun w'=>w'.heap[gp]?=some (.cells #[.int .u8 a,.int .u8 t,.int .u8 pr,.int .u16 i,.int .u8 fl,.int .u16 of_,.int .u32 s,.int .u32 d,.slice Ao o.length co,.slice Ab b.length cb] 73 (0,0)) /\ w'.heap[gf]?=some (.cells #[.int .u8 pr,.int .u32 s,.int .u16 sp,.int .u32 d,.int .u16 dp,.int .u8 ff,.slice Ai inn.length ci] 76 (0,0))) (ds:=[]) #[false,false,false,false,false,false] (by kernel_rfl) rfl rfl ⟨HXp.out,HXf.out⟩ (fun hHeld=> ?_);refine with_tabW XM.R2.tab XM.R2.bits (fun HT_ HW_=> ?_);have hb_:=below_drew1 (Below.refl w7.heap.size w7);replace HB:=mB HB hb_;replace HXr:=mX HXr hb_;replace HXq:=mX HXq hb_;replace bW:=mR bW hb_;replace HRb:=mR HRb hb_;replace HRi:=mI HRi hb_;replace HXp:=mX HXp hb_;replace HXf:=mX HXf hb_;clear hb_
 generalize w7.drew=w8 at HB HXr HXq bW HRb HRi HXp HXf hHeld|-
 refine pz 2 18 HT_ ?_;refine tv 0 16 (.agg #[.int .u8 a,.int .u8 t,.int .u8 pr,.int .u16 i,.int .u8 fl,.int .u16 of_,.int .u32 s,.int .u32 d,.slice Ao o.length co,.slice Ab b.length cb]) HT_ HW_ hHeld ?_ ?_
 ·intro w' s0
  obtain ⟨s0,s1⟩:=s0;exact rw_load (p:= .tmp 5) (ty:=73) (by rfl) (by rfl) s0 hu73 (by rfl) HI73.out
 refine nz 16 ?_;refine tv 1 17 (.agg #[.int .u8 pr,.int .u32 s,.int .u16 sp,.int .u32 d,.int .u16 dp,.int .u8 ff,.slice Ai inn.length ci]) HT_ HW_ hHeld ?_ ?_
 ·intro w' s0
  obtain ⟨s0,s1⟩:=s0;exact rw_load (p:= .tmp 7) (ty:=76) (by rfl) (by rfl) s1 hu76 (by rfl) HI76.out
 refine nz 17 ?_;refine oz 3 (none) HT_ (fun K hK=> ?_);refine cu (by rfl) (by rfl) rfl rfl rfl HXr.out HI73.out rfl (by simp [Value.oneCell']) ?_;intro w9 hs_ off_;replace HXq:=oX off_ HXq HXr (by decide);replace bW:=oR off_ bW HXr (by decide);replace HRb:=oR off_ HRb HXr (by decide);replace HRi:=oI off_ HRi HXr (by decide);replace HXp:=oN off_ HXp (bC KO);replace HXf:=oX off_ HXf HXr (by decide);replace HB:=oB off_ HB GHXr;clear off_;replace HXr:=Aside0.mk hs_;clear hs_;refine hK.out _ _ ⟨HXp.out,HXf.out⟩ (fun hHeld=> ?_);clear hK K;refine oz 4 (none) HT_ (fun K hK=> ?_);refine cu (by rfl) (by rfl) rfl rfl rfl HXq.out HI76.out rfl (by simp [Value.oneCell']) ?_;intro w10 hs_ off_;replace HXr:=oX off_ HXr HXq (by decide);replace bW:=oR off_ bW HXq (by decide);replace HRb:=oR off_ HRb HXq (by decide)
 replace HRi:=oI off_ HRi HXq (by decide);replace HXp:=oX off_ HXp HXq (by decide);replace HXf:=oN off_ HXf (bC bP);replace HB:=oB off_ HB GHXq;clear off_;replace HXq:=Aside0.mk hs_;clear hs_;refine hK.out _ _ ⟨HXp.out,HXf.out⟩ (fun hHeld=> ?_);clear hK K;refine pz 5 4 HT_ ?_;refine dz HT_ ?_;clear HT_ HW_ hHeld
 (try dsimp only)
 go_wp2
 (try simp only [Exit.inBlock,Exit.then])
 refine bodyPost_ret (ku rfl _ _ _ _ _ _ _ _ (0,0) (0,0) _ _ rfl HXr.out hu73 rfl HI73.out rfl HXq.out hu76 rfl HI76.out) rfl ?_;exact ⟨_,_,_,rfl,bW.out,HRb.out,HRi.out,HB.out⟩
attribute [local go_sem] xK
attribute [local go_sem] xM
attribute [local go_sem] xN
attribute [local go_sem] xO
attribute [local go_sem] xP
attribute [local go_sem] xQ
attribute [local go_sem] xR
attribute [local go_sem] xU
attribute [local go_sem] xW
attribute [local go_sem] xX
attribute [local go_sem] xY
attribute [local go_sem] xZ
theorem look.lk_icmp (k:Nat) (A:Option Addr) (c:Nat) (l:List Int) (a t i fl of_ s d:Int) (o b:List Int) (r:LK) (w:World) (hC:Kd.C (Kd.int .u8) w A l.length l) (hL:l.length<=c) (hP:dL.f k l=some (a,t,1,i,fl,of_,s,d,o,b,0)) (h:xh k a t i fl of_ s d o b=some r):
  Calls Try.prog 69 #[.slice A l.length c] w fun e w'=>r.Post w.heap.size w e w':=by
 have hu73:=Try.underlying73;have hu76:=Try.underlying76;have F7:=Try.underlying83;have Ag:=Try.underlying137;have uQ:=Try.underlying101;have QX:=Try.underlying179;have Rl:=Try.underlying181;have Rw:=Try.underlying183;have HB:=jy w;have HC:=Aside0.mk hC;have HL:=Aside0.mk hL;have HP:=Aside0.mk hP;have HF:=Aside0.mk h;have HI73:Aside0 ((Try.prog.info? 73).map (·.size)=some 10):=⟨by kernel_rfl⟩
 have HI76:Aside0 ((Try.prog.info? 76).map (·.size)=some 7):=⟨by kernel_rfl⟩
 have Ei:Aside0 ((Try.prog.info? 83).map (·.size)=some 4):=⟨by kernel_rfl⟩
 have qV:Aside0 ((Try.prog.info? 137).map (·.size)=some 10):=⟨by kernel_rfl⟩
 have ou:Aside0 ((Try.prog.info? 101).map (·.size)=some 5):=⟨by kernel_rfl⟩
 have V8:Aside0 ((Try.prog.info? 179).map (·.size)=some 4):=⟨by kernel_rfl⟩
 have V9:Aside0 ((Try.prog.info? 181).map (·.size)=some 10):=⟨by kernel_rfl⟩
 have AaE:Aside0 ((Try.prog.info? 183).map (·.size)=some 5):=⟨by kernel_rfl⟩
 clear hC hL hP h
 go_enter Try.func69,Try.ntmps69
 go_upto_region 2 with (first|((with_reducible refine gate_dst (N:=2) rfl ?_);refine box_event ?hg_ (N:=2) ?hd_ (cs:= #[.int .u8 0,.int .u8 0,.int .u8 0,.int .u16 0,.int .u8 0,.int .u16 0,.int .u32 0,.int .u32 0,.slice none 0 0,.slice none 0 0]) (t:=73) ?hr_ ?_;(case hd_=>rfl);(case hg_=>rfl);(case hr_=>first|(go_simp;done)|(go_simp;rfl));intro gi hgg_ w1 hbox_ hbb_;have o6:=Aside0.mk (show w.heap.size<=gi by rw [hgg_];exact below_size HB.out);have aU:=Aside0.mk hbox_;have hb_:=hbb_;replace HB:=mB HB hb_;clear hb_;clear hgg_ hbox_ hbb_)|((with_reducible refine gate_dst (N:=4) rfl ?_);refine box_event ?hg_ (N:=4) ?hd_ (cs:= #[.int .u8 0,.int .u32 0,.int .u16 0,.int .u32 0,.int .u16 0,.int .u8 0,.slice none 0 0]) (t:=76) ?hr_ ?_;(case hd_=>rfl);(case hg_=>rfl);(case hr_=>first|(go_simp;done)|(go_simp;rfl));intro gq hgg_ w2 hbox_ hbb_;have GHXq:=Aside0.mk (show w.heap.size<=gq by rw [hgg_];exact below_size HB.out);have HXq:=Aside0.mk hbox_;have hb_:=hbb_;replace HB:=mB HB hb_;replace aU:=mX aU hb_;clear hb_;clear hgg_ hbox_ hbb_)|((refine iy rfl rfl rfl rfl rfl HI76.out rfl (by simp [Value.oneCell']) ?_);intro jm jU dP))
 revert jm jU dP;intro w3 jU dP;have bZ:Aside0 (w3.heap[w2.heap.size]?=some (.cells #[.int .u8 0,.int .u32 0,.int .u16 0,.int .u32 0,.int .u16 0,.int .u8 0,.slice none 0 0] 76 (0,0))):=⟨jU⟩
 have IV:=FO HB;have iV:=blk_less HXq;have hb_:=dP;replace HB:=mB HB hb_;replace aU:=mX aU hb_;replace HXq:=mX HXq hb_;clear hb_;clear jU dP;generalize w2.heap.size=gn at bZ IV iV|-
 go_wp2_with fail
 refine (dL.calls k A c l a t 1 i fl of_ s d o b 0 _ (Kd.aJ HC.out HB.out) HL.out HP.out).mono ?_;rintro ev w4 ⟨vo,vb,rfl,ho,ho2,hb⟩;have bW:=qP ho HB;obtain ⟨Ao,co,rfl,_,_⟩:=Kd.R_reads ho;clear ho;have HRb:=qP ho2 HB;obtain ⟨Ab,cb,rfl,_,_⟩:=Kd.R_reads ho2;clear ho2;have hb_:=hb;replace HB:=mB HB hb_;replace aU:=mX aU hb_;replace HXq:=mX HXq hb_;replace bZ:=mX bZ hb_;clear hb_;clear hb HP HC HL
 (try dsimp only)
 go_upto_region 3 with (((refine iy rfl rfl rfl rfl rfl HI73.out rfl (by simp [Value.oneCell']) ?_);intro jm jU dP))
 revert jm jU dP;intro w5 jU dP;have HXp:Aside0 (w5.heap[w4.heap.size]?=some (.cells #[.int .u8 a,.int .u8 t,.int .u8 1,.int .u16 i,.int .u8 fl,.int .u16 of_,.int .u32 s,.int .u32 d,.slice Ao o.length co,.slice Ab b.length cb] 73 (0,0))):=⟨jU⟩
 have GHXp:=FO HB;have cO:=blk_less aU;have hb_:=dP;replace HB:=mB HB hb_;replace aU:=mX aU hb_;replace HXq:=mX HXq hb_;replace bZ:=mX bZ hb_;replace bW:=mR bW hb_;replace HRb:=mR HRb hb_;clear hb_;clear jU dP;generalize w4.heap.size=gp at HXp GHXp cO|-
 have H:xh k a t i fl of_ s d o b=some r:=HF.out;clear HF;unfold xh at H
 obtain ⟨⟨mt,mc,ms,mr,mb,e2⟩,hp,H⟩:=dI H;dsimp only at H
 have HG:=Aside0.mk H;clear H;have he1:((0:Int)==0)=true:=rfl;have he2:((0:Int) !=0)=false:=rfl
 (try dsimp only)
 go_wp2_with (refine Kd.event_run rfl (rw_load rfl rfl HXp.out Try.underlying73 rfl HI73.out) ?_)
 clear he1 he2;refine (uK.AcL a t i fl of_ s d Ao o.length co Ab cb b mt mc ms mr e2 mb _ (Kd.R_reads' HRb.out).2.2 (Kd.R_reads' HRb.out).2.1 hp).mono ?_;rintro ev w6 ⟨vmb,rfl,hmb,hb⟩;clear hp;have dB:=qP hmb HB;obtain ⟨KP,KQ,rfl,_,_⟩:=Kd.R_reads hmb;clear hmb;have hb_:=hb;replace HB:=mB HB hb_;replace aU:=mX aU hb_;replace HXq:=mX HXq hb_;replace bZ:=mX bZ hb_;replace bW:=mR bW hb_;replace HRb:=mR HRb hb_;replace HXp:=mX HXp hb_;clear hb_;clear hb;have H:=HG.out;clear HG
 by_cases ce:e2=0
 ·have KR:(e2==0)=true:=jf ce
  have UD:(e2 !=0)=false:=by rw [bne,KR];rfl
  rw [ah ce] at H
  clear ce;obtain ⟨rt,hr,H⟩:=dI H;have HG:=Aside0.mk H;clear H
  (try dsimp only)
  go_wp2_with (refine Kd.event_run rfl (rw_load rfl rfl HXp.out Try.underlying73 rfl HI73.out) ?_)
  refine (oZ.calls k mt mc ms mr KP KQ mb a t 1 i fl of_ s d Ao co o Ab cb b rt _ (Kd.R_reads' dB.out).2.2 (Kd.R_reads' dB.out).2.1 (Kd.R_reads' bW.out).2.2 (Kd.R_reads' bW.out).2.1 (Kd.R_reads' HRb.out).2.2 (Kd.R_reads' HRb.out).2.1 (by unfold oZ.f;rw [hr];rfl)).mono ?_;rintro ev w7 ⟨rfl,hb⟩;clear hr;have hb_:=hb;replace HB:=mB HB hb_;replace aU:=mX aU hb_;replace HXq:=mX HXq hb_;replace bZ:=mX bZ hb_;replace bW:=mR bW hb_;replace HRb:=mR HRb hb_;replace HXp:=mX HXp hb_;replace dB:=mR dB hb_;clear hb_;clear hb;have H:=HG.out;clear HG
  cases rt with
  |false=>
   rw [aj (by decide)] at H
   obtain rfl:=eF H
   (try dsimp only)
   go_upto_region 9 with (fail)
   refine start_ (n:=6) (S:=fun w'=>w'.heap[gn]?=some (.cells #[.int .u8 0,.int .u32 0,.int .u16 0,.int .u32 0,.int .u16 0,.int .u8 0,.slice none 0 0] 76 (0,0))) (ds:=[]) #[false,false,false,false,false,false] (by kernel_rfl) rfl rfl bZ.out (fun hHeld=> ?_);refine with_tabW look.R9.tab look.R9.bits (fun HT_ HW_=> ?_);have hb_:=below_drew1 (Below.refl w7.heap.size w7);replace HB:=mB HB hb_;replace aU:=mX aU hb_;replace HXq:=mX HXq hb_;replace bZ:=mX bZ hb_;replace bW:=mR bW hb_;replace HRb:=mR HRb hb_;replace HXp:=mX HXp hb_;replace dB:=mR dB hb_;clear hb_;generalize w7.drew=w8 at HB aU HXq bZ bW HRb HXp dB hHeld|-
   refine pz 0 41 HT_ ?_;refine tv 1 42 (.agg #[.int .u8 0,.int .u32 0,.int .u16 0,.int .u32 0,.int .u16 0,.int .u8 0,.slice none 0 0]) HT_ HW_ hHeld ?_ ?_
   ·intro w' s0
    exact rw_load (p:= .tmp 6) (ty:=76) (by rfl) (by rfl) s0 hu76 (by rfl) HI76.out
   refine nz 42 ?_;refine oz 2 (none) HT_ (fun K hK=> ?_);refine cu (by rfl) (by rfl) rfl rfl rfl aU.out HI73.out rfl (by simp [Value.oneCell']) ?_;intro w9 hs_ off_;replace HXq:=oX off_ HXq aU (by decide);replace bZ:=oX off_ bZ aU (by decide);replace bW:=oR off_ bW aU (by decide);replace HRb:=oR off_ HRb aU (by decide);replace HXp:=oN off_ HXp (bC cO);replace dB:=oR off_ dB aU (by decide);replace HB:=oB off_ HB o6;clear off_;replace aU:=Aside0.mk hs_;clear hs_;refine hK.out _ _ bZ.out (fun hHeld=> ?_);clear hK K;refine pz 3 3 HT_ ?_;refine oz 4 (none) HT_ (fun K hK=> ?_);refine cu (by rfl) (by rfl) rfl rfl rfl HXq.out HI76.out rfl (by simp [Value.oneCell']) ?_;intro w10 hs_ off_;replace aU:=oX off_ aU HXq (by decide);replace bZ:=oN off_ bZ (bC iV)
   replace bW:=oR off_ bW HXq (by decide);replace HRb:=oR off_ HRb HXq (by decide);replace HXp:=oX off_ HXp HXq (by decide);replace dB:=oR off_ dB HXq (by decide);replace HB:=oB off_ HB GHXq;clear off_;replace HXq:=Aside0.mk hs_;clear hs_;refine hK.out _ _ bZ.out (fun hHeld=> ?_);clear hK K;refine pz 5 5 HT_ ?_;refine dz HT_ ?_;clear HT_ HW_ hHeld
   (try dsimp only)
   go_wp2
   (try simp only [Exit.inBlock,Exit.then])
   refine bodyPost_ret (jT rfl _ _ _ _ _ _ _ _ (0,0) (0,0) _ _ rfl aU.out hu73 rfl HI73.out rfl HXq.out hu76 rfl HI76.out) rfl ?_;exact ⟨_,_,_,_,rfl,Kd.bV _ _ _ _ _,Kd.bV _ _ _ _ _,rfl,Kd.bV _ _ _ _ _,HB.out⟩
  |true=>
   rw [ah rfl] at H
   have HG:=Aside0.mk H;clear H
   (try dsimp only)
   have uM:=cz HXp.out 2 rfl;have Ap:=cz HXp.out 6 rfl;have BG:=cz HXp.out 7 rfl
   go_upto_region 11 with (((refine iy rfl rfl rfl rfl rfl HI76.out rfl (by simp [Value.oneCell']) ?_);intro jm jU dP))
   clear uM Ap BG;revert jm jU dP;intro w8 jU dP;have HXf:Aside0 (w8.heap[w7.heap.size]?=some (.cells #[.int .u8 1,.int .u32 s,.int .u16 0,.int .u32 d,.int .u16 0,.int .u8 0,.slice none 0 0] 76 (0,0))):=⟨jU⟩
   have GHXf:=FO HB;have bP:=blk_less HXq;have mJ:=blk_less bZ;have hb_:=dP;replace HB:=mB HB hb_;replace aU:=mX aU hb_;replace HXq:=mX HXq hb_;replace bZ:=mX bZ hb_;replace bW:=mR bW hb_;replace HRb:=mR HRb hb_;replace HXp:=mX HXp hb_;replace dB:=mR dB hb_;clear hb_;clear jU dP;generalize w7.heap.size=gf at HXf GHXf bP mJ|-
   go_wp2_with fail
   refine (o5.calls mt mc ms mr KP KQ mb 1 _ (Kd.R_reads' dB.out).2.2 (Kd.R_reads' dB.out).2.1 rfl).mono ?_;rintro ev w9 ⟨rfl,hb⟩;have hb_:=hb;replace HB:=mB HB hb_;replace aU:=mX aU hb_;replace HXq:=mX HXq hb_;replace bZ:=mX bZ hb_;replace bW:=mR bW hb_;replace HRb:=mR HRb hb_;replace HXp:=mX HXp hb_;replace dB:=mR dB hb_;replace HXf:=mX HXf hb_;clear hb_;clear hb
   (try dsimp only)
   go_upto_region 13 with (((refine iy rfl rfl rfl rfl rfl ou.out rfl (by simp [Value.oneCell']) ?_);intro jm jU dP))
   revert jm jU dP;intro w10 jU dP;have oL:Aside0 (w10.heap[w9.heap.size]?=some (.cells #[.int .u8 mt,.int .u8 mc,.int .u16 ms,.int .u32 mr,.slice KP mb.length KQ] 101 (0,0))):=⟨jU⟩
   have RJ:=FO HB;have hb_:=dP;replace HB:=mB HB hb_;replace aU:=mX aU hb_;replace HXq:=mX HXq hb_;replace bZ:=mX bZ hb_;replace bW:=mR bW hb_;replace HRb:=mR HRb hb_;replace HXp:=mX HXp hb_;replace dB:=mR dB hb_;replace HXf:=mX HXf hb_;clear hb_;clear jU dP;generalize w9.heap.size=gm at oL RJ|-
   have Auo:=cz oL.out 4 rfl;have H:=HG.out;clear HG;obtain ⟨⟨il,ok⟩,hin,H⟩:=dI H;dsimp only at H
   have HG:=Aside0.mk H;clear H
   go_wp2_with fail
   clear Auo;refine (dJ.calls k KP KQ mb il ok _ (Kd.R_reads' dB.out).2.2 (Kd.R_reads' dB.out).2.1 hin).mono ?_;rintro ev w11 ⟨vi,rfl,hi,hb⟩;clear hin;have HRi:=Aside0.mk (Kd.R_lower hi (below_size HB.out));obtain ⟨Ai,ci,rfl,_,_⟩:=Kd.R_reads hi;clear hi;have hb_:=hb;replace HB:=mB HB hb_;replace aU:=mX aU hb_;replace HXq:=mX HXq hb_;replace bZ:=mX bZ hb_;replace bW:=mR bW hb_;replace HRb:=mR HRb hb_;replace HXp:=mX HXp hb_;replace dB:=mR dB hb_;replace HXf:=mX HXf hb_;replace oL:=mX oL hb_;clear hb_;clear hb;have H:=HG.out;clear HG;obtain ⟨ec,hec,H⟩:=dI H;have HG:=Aside0.mk H;clear H
   (try dsimp only)
   go_wp2_with (refine Kd.event_run rfl (rw_load rfl rfl oL.out Try.underlying101 rfl ou.out) ?_)
   refine (oJ.calls mt mc ms mr KP KQ mb ec _ (Kd.R_reads' dB.out).2.2 (Kd.R_reads' dB.out).2.1 hec).mono ?_;rintro ev w12 ⟨rfl,hb⟩;clear hec;have hb_:=hb;replace HB:=mB HB hb_;replace aU:=mX aU hb_;replace HXq:=mX HXq hb_;replace bZ:=mX bZ hb_;replace bW:=mR bW hb_;replace HRb:=mR HRb hb_;replace HXp:=mX HXp hb_;replace dB:=mR dB hb_;replace HXf:=mX HXf hb_;replace oL:=mX oL hb_;replace HRi:=mI HRi hb_;clear hb_;clear hb;have H:=HG.out;clear HG
   cases ec with
   |false=>
    rw [aj (by decide)] at H
    obtain ⟨er,her,H⟩:=dI H;have HG:=Aside0.mk H;clear H
    (try dsimp only)
    go_wp2_with (refine Kd.event_run rfl (rw_load rfl rfl oL.out Try.underlying101 rfl ou.out) ?_)
    refine (wR.calls mt mc ms mr KP KQ mb er _ (Kd.R_reads' dB.out).2.2 (Kd.R_reads' dB.out).2.1 her).mono ?_;rintro ev w13 ⟨rfl,hb⟩;clear her;have hb_:=hb;replace HB:=mB HB hb_;replace aU:=mX aU hb_;replace HXq:=mX HXq hb_;replace bZ:=mX bZ hb_;replace bW:=mR bW hb_;replace HRb:=mR HRb hb_;replace HXp:=mX HXp hb_;replace dB:=mR dB hb_;replace HXf:=mX HXf hb_;replace oL:=mX oL hb_;replace HRi:=mI HRi hb_;clear hb_;clear hb;have H:=HG.out;clear HG
    cases er with
    |false=>
     rw [aj (by decide)] at H
     obtain rfl:=eF H
     (try dsimp only)
     go_upto_region 18 with (fail)
     refine start_ (n:=6) (S:=fun w'=>w'.heap[gn]?=some (.cells #[.int .u8 0,.int .u32 0,.int .u16 0,.int .u32 0,.int .u16 0,.int .u8 0,.slice none 0 0] 76 (0,0))) (ds:=[]) #[false,false,false,false,false,false] (by kernel_rfl) rfl rfl bZ.out (fun hHeld=> ?_);refine with_tabW look.R18.tab look.R18.bits (fun HT_ HW_=> ?_);have hb_:=below_drew1 (Below.refl w13.heap.size w13);replace HB:=mB HB hb_;replace aU:=mX aU hb_;replace HXq:=mX HXq hb_;replace bZ:=mX bZ hb_;replace bW:=mR bW hb_;replace HRb:=mR HRb hb_;replace HXp:=mX HXp hb_;replace dB:=mR dB hb_;replace HXf:=mX HXf hb_;replace oL:=mX oL hb_;replace HRi:=mI HRi hb_;clear hb_;generalize w13.drew=w14 at HB aU HXq bZ bW HRb HXp dB HXf oL HRi hHeld|-
     refine pz 0 88 HT_ ?_;refine tv 1 89 (.agg #[.int .u8 0,.int .u32 0,.int .u16 0,.int .u32 0,.int .u16 0,.int .u8 0,.slice none 0 0]) HT_ HW_ hHeld ?_ ?_
     ·intro w' s0
      exact rw_load (p:= .tmp 6) (ty:=76) (by rfl) (by rfl) s0 hu76 (by rfl) HI76.out
     refine nz 89 ?_;refine oz 2 (none) HT_ (fun K hK=> ?_);refine cu (by rfl) (by rfl) rfl rfl rfl aU.out HI73.out rfl (by simp [Value.oneCell']) ?_;intro w15 hs_ off_;replace HXq:=oX off_ HXq aU (by decide);replace bZ:=oX off_ bZ aU (by decide);replace bW:=oR off_ bW aU (by decide);replace HRb:=oR off_ HRb aU (by decide);replace HXp:=oN off_ HXp (bC cO);replace dB:=oR off_ dB aU (by decide);replace HXf:=oX off_ HXf aU (by decide);replace oL:=oX off_ oL aU (by decide);replace HRi:=oI off_ HRi aU (by decide);replace HB:=oB off_ HB o6;clear off_;replace aU:=Aside0.mk hs_;clear hs_;refine hK.out _ _ bZ.out (fun hHeld=> ?_);clear hK K;refine pz 3 3 HT_ ?_;refine oz 4 (none) HT_ (fun K hK=> ?_);refine cu (by rfl) (by rfl) rfl rfl rfl HXq.out HI76.out rfl (by simp [Value.oneCell']) ?_
     intro w16 hs_ off_;replace aU:=oX off_ aU HXq (by decide);replace bZ:=oN off_ bZ (bC iV);replace bW:=oR off_ bW HXq (by decide);replace HRb:=oR off_ HRb HXq (by decide);replace HXp:=oX off_ HXp HXq (by decide);replace dB:=oR off_ dB HXq (by decide);replace HXf:=oN off_ HXf (bC bP);replace oL:=oX off_ oL HXq (by decide);replace HRi:=oI off_ HRi HXq (by decide);replace HB:=oB off_ HB GHXq;clear off_;replace HXq:=Aside0.mk hs_;clear hs_;refine hK.out _ _ bZ.out (fun hHeld=> ?_);clear hK K;refine pz 5 5 HT_ ?_;refine dz HT_ ?_;clear HT_ HW_ hHeld
     (try dsimp only)
     go_wp2
     (try simp only [Exit.inBlock,Exit.then])
     refine bodyPost_ret (jT rfl _ _ _ _ _ _ _ _ (0,0) (0,0) _ _ rfl aU.out hu73 rfl HI73.out rfl HXq.out hu76 rfl HI76.out) rfl ?_;exact ⟨_,_,_,_,rfl,Kd.bV _ _ _ _ _,Kd.bV _ _ _ _ _,rfl,Kd.bV _ _ _ _ _,HB.out⟩
    |true=>
     rw [ah rfl] at H
     cases ok with
     |false=>
      rw [aj (by decide)] at H
      obtain rfl:=eF H
      (try dsimp only)
      go_upto_region 18 with (fail)
      refine start_ (n:=6) (S:=fun w'=>w'.heap[gn]?=some (.cells #[.int .u8 0,.int .u32 0,.int .u16 0,.int .u32 0,.int .u16 0,.int .u8 0,.slice none 0 0] 76 (0,0))) (ds:=[]) #[false,false,false,false,false,false] (by kernel_rfl) rfl rfl bZ.out (fun hHeld=> ?_);refine with_tabW look.R18.tab look.R18.bits (fun HT_ HW_=> ?_);have hb_:=below_drew1 (Below.refl w13.heap.size w13);replace HB:=mB HB hb_;replace aU:=mX aU hb_;replace HXq:=mX HXq hb_;replace bZ:=mX bZ hb_;replace bW:=mR bW hb_;replace HRb:=mR HRb hb_;replace HXp:=mX HXp hb_;replace dB:=mR dB hb_;replace HXf:=mX HXf hb_;replace oL:=mX oL hb_;replace HRi:=mI HRi hb_;clear hb_;generalize w13.drew=w14 at HB aU HXq bZ bW HRb HXp dB HXf oL HRi hHeld|-
      refine pz 0 88 HT_ ?_;refine tv 1 89 (.agg #[.int .u8 0,.int .u32 0,.int .u16 0,.int .u32 0,.int .u16 0,.int .u8 0,.slice none 0 0]) HT_ HW_ hHeld ?_ ?_
      ·intro w' s0
       exact rw_load (p:= .tmp 6) (ty:=76) (by rfl) (by rfl) s0 hu76 (by rfl) HI76.out
      refine nz 89 ?_;refine oz 2 (none) HT_ (fun K hK=> ?_);refine cu (by rfl) (by rfl) rfl rfl rfl aU.out HI73.out rfl (by simp [Value.oneCell']) ?_;intro w15 hs_ off_;replace HXq:=oX off_ HXq aU (by decide);replace bZ:=oX off_ bZ aU (by decide);replace bW:=oR off_ bW aU (by decide);replace HRb:=oR off_ HRb aU (by decide);replace HXp:=oN off_ HXp (bC cO);replace dB:=oR off_ dB aU (by decide);replace HXf:=oX off_ HXf aU (by decide);replace oL:=oX off_ oL aU (by decide);replace HRi:=oI off_ HRi aU (by decide);replace HB:=oB off_ HB o6;clear off_;replace aU:=Aside0.mk hs_;clear hs_;refine hK.out _ _ bZ.out (fun hHeld=> ?_);clear hK K;refine pz 3 3 HT_ ?_;refine oz 4 (none) HT_ (fun K hK=> ?_);refine cu (by rfl) (by rfl) rfl rfl rfl HXq.out HI76.out rfl (by simp [Value.oneCell']) ?_
      intro w16 hs_ off_;replace aU:=oX off_ aU HXq (by decide);replace bZ:=oN off_ bZ (bC iV);replace bW:=oR off_ bW HXq (by decide);replace HRb:=oR off_ HRb HXq (by decide);replace HXp:=oX off_ HXp HXq (by decide);replace dB:=oR off_ dB HXq (by decide);replace HXf:=oN off_ HXf (bC bP);replace oL:=oX off_ oL HXq (by decide);replace HRi:=oI off_ HRi HXq (by decide);replace HB:=oB off_ HB GHXq;clear off_;replace HXq:=Aside0.mk hs_;clear hs_;refine hK.out _ _ bZ.out (fun hHeld=> ?_);clear hK K;refine pz 5 5 HT_ ?_;refine dz HT_ ?_;clear HT_ HW_ hHeld
      (try dsimp only)
      go_wp2
      (try simp only [Exit.inBlock,Exit.then])
      refine bodyPost_ret (jT rfl _ _ _ _ _ _ _ _ (0,0) (0,0) _ _ rfl aU.out hu73 rfl HI73.out rfl HXq.out hu76 rfl HI76.out) rfl ?_;exact ⟨_,_,_,_,rfl,Kd.bV _ _ _ _ _,Kd.bV _ _ _ _ _,rfl,Kd.bV _ _ _ _ _,HB.out⟩
     |true=>
      rw [ah rfl] at H
      obtain rfl:=eF H
      (try dsimp only)
      go_upto_region 25 with (((refine rw_set rfl rfl (i:=6) (v:= .slice Ai il.length ci) (cs':= #[.int .u8 1,.int .u32 s,.int .u16 0,.int .u32 d,.int .u16 0,.int .u8 0,.slice Ai il.length ci]) HXf.out rfl ?hr_ ?_);(case hr_=>(have m_:=(blk_cell HXf.out 6).trans (rfl:_=some (.slice none 0 0:Value)));(have mf_:=blk_frozen HXf.out 6);first|(go_simp;done)|(go_simp;rfl));intro w14 hs_ off_;replace aU:=oX off_ aU HXf (by decide);replace HXq:=oN off_ HXq bP;replace bZ:=oN off_ bZ mJ;replace bW:=oR off_ bW HXf (by decide);replace HRb:=oR off_ HRb HXf (by decide);replace HXp:=oX off_ HXp HXf (by decide);replace dB:=oR off_ dB HXf (by decide);replace oL:=oX off_ oL HXf (by decide);replace HRi:=oI off_ HRi HXf (by decide);replace HB:=oB off_ HB GHXf;clear off_;replace HXf:=Aside0.mk hs_;clear hs_))
      (try dsimp only)
      go_upto_region 25 with (fail)
      refine start_ (n:=7) (S:=fun w'=>w'.heap[gp]?=some (.cells #[.int .u8 a,.int .u8 t,.int .u8 1,.int .u16 i,.int .u8 fl,.int .u16 of_,.int .u32 s,.int .u32 d,.slice Ao o.length co,.slice Ab b.length cb] 73 (0,0)) /\ w'.heap[gf]?=some (.cells #[.int .u8 1,.int .u32 s,.int .u16 0,.int .u32 d,.int .u16 0,.int .u8 0,.slice Ai il.length ci] 76 (0,0))) (ds:=[]) #[false,false,false,false,false,false,false] (by kernel_rfl) rfl rfl ⟨HXp.out,HXf.out⟩ (fun hHeld=> ?_);refine with_tabW look.YF.tab look.YF.bits (fun HT_ HW_=> ?_);have hb_:=below_drew1 (Below.refl w14.heap.size w14);replace HB:=mB HB hb_;replace aU:=mX aU hb_;replace HXq:=mX HXq hb_;replace bZ:=mX bZ hb_;replace bW:=mR bW hb_;replace HRb:=mR HRb hb_;replace HXp:=mX HXp hb_;replace dB:=mR dB hb_;replace HXf:=mX HXf hb_;replace oL:=mX oL hb_
      replace HRi:=mI HRi hb_;clear hb_;generalize w14.drew=w15 at HB aU HXq bZ bW HRb HXp dB HXf oL HRi hHeld|-
      refine pz 1 123 HT_ ?_;refine tv 0 122 (.agg #[.int .u8 a,.int .u8 t,.int .u8 1,.int .u16 i,.int .u8 fl,.int .u16 of_,.int .u32 s,.int .u32 d,.slice Ao o.length co,.slice Ab b.length cb]) HT_ HW_ hHeld ?_ ?_
      ·intro w' s0
       obtain ⟨s0,s1⟩:=s0;exact rw_load (p:= .tmp 7) (ty:=73) (by rfl) (by rfl) s0 hu73 (by rfl) HI73.out
      refine nz 122 ?_;refine tv 2 124 (.agg #[.int .u8 1,.int .u32 s,.int .u16 0,.int .u32 d,.int .u16 0,.int .u8 0,.slice Ai il.length ci]) HT_ HW_ hHeld ?_ ?_
      ·intro w' s0
       obtain ⟨s0,s1⟩:=s0;exact rw_load (p:= .tmp 10) (ty:=76) (by rfl) (by rfl) s1 hu76 (by rfl) HI76.out
      refine nz 124 ?_;refine oz 3 (none) HT_ (fun K hK=> ?_);refine cu (by rfl) (by rfl) rfl rfl rfl aU.out HI73.out rfl (by simp [Value.oneCell']) ?_;intro w16 hs_ off_;replace HXq:=oX off_ HXq aU (by decide);replace bZ:=oX off_ bZ aU (by decide);replace bW:=oR off_ bW aU (by decide);replace HRb:=oR off_ HRb aU (by decide);replace HXp:=oN off_ HXp (bC cO);replace dB:=oR off_ dB aU (by decide);replace HXf:=oX off_ HXf aU (by decide);replace oL:=oX off_ oL aU (by decide);replace HRi:=oI off_ HRi aU (by decide);replace HB:=oB off_ HB o6;clear off_;replace aU:=Aside0.mk hs_;clear hs_;refine hK.out _ _ ⟨HXp.out,HXf.out⟩ (fun hHeld=> ?_);clear hK K;refine pz 4 3 HT_ ?_;refine oz 5 (none) HT_ (fun K hK=> ?_);refine cu (by rfl) (by rfl) rfl rfl rfl HXq.out HI76.out rfl (by simp [Value.oneCell']) ?_
      intro w17 hs_ off_;replace aU:=oX off_ aU HXq (by decide);replace bZ:=oN off_ bZ (bC iV);replace bW:=oR off_ bW HXq (by decide);replace HRb:=oR off_ HRb HXq (by decide);replace HXp:=oX off_ HXp HXq (by decide);replace dB:=oR off_ dB HXq (by decide);replace HXf:=oN off_ HXf (bC bP);replace oL:=oX off_ oL HXq (by decide);replace HRi:=oI off_ HRi HXq (by decide);replace HB:=oB off_ HB GHXq;clear off_;replace HXq:=Aside0.mk hs_;clear hs_;refine hK.out _ _ ⟨HXp.out,HXf.out⟩ (fun hHeld=> ?_);clear hK K;refine pz 6 5 HT_ ?_;refine dz HT_ ?_;clear HT_ HW_ hHeld
      (try dsimp only)
      go_wp2
      (try simp only [Exit.inBlock,Exit.then])
      refine bodyPost_ret (jT rfl _ _ _ _ _ _ _ _ (0,0) (0,0) _ _ rfl aU.out hu73 rfl HI73.out rfl HXq.out hu76 rfl HI76.out) rfl ?_;exact ⟨_,_,_,_,rfl,bW.out,HRb.out,⟨_,rfl,dB.out⟩,HRi.out,HB.out⟩
   |true=>
    rw [ah rfl] at H
    obtain rfl:=eF H
    (try dsimp only)
    go_upto_region 16 with (fail)
    refine start_ (n:=14) (S:=fun w'=>w'.cell? ⟨gm,3,none⟩=some (.int .u32 mr)) (ds:=[]) #[false,false,false,false,false,false,false,false,false,false,false,false,false,false] (by kernel_rfl) rfl rfl ((blk_cell oL.out 3).trans rfl) (fun hHeld=> ?_);refine with_tabW look.R16.tab look.R16.bits (fun HT_ HW_=> ?_);have hb_:=below_drew1 (Below.refl w12.heap.size w12);replace HB:=mB HB hb_;replace aU:=mX aU hb_;replace HXq:=mX HXq hb_;replace bZ:=mX bZ hb_;replace bW:=mR bW hb_;replace HRb:=mR HRb hb_;replace HXp:=mX HXp hb_;replace dB:=mR dB hb_;replace HXf:=mX HXf hb_;replace oL:=mX oL hb_;replace HRi:=mI HRi hb_;clear hb_;generalize w12.drew=w13 at HB aU HXq bZ bW HRb HXp dB HXf oL HRi hHeld|-
    refine pz 0 68 HT_ ?_;refine pz 4 72 HT_ ?_;refine tz 1 69 HT_ HW_ hHeld ?_;refine pz 2 70 HT_ ?_;refine pz 3 71 HT_ ?_;refine pz 8 76 HT_ ?_;refine pz 9 77 HT_ ?_;refine tz 5 73 HT_ HW_ hHeld ?_;refine pz 6 74 HT_ ?_;refine pz 7 75 HT_ ?_;refine oz 10 (none) HT_ (fun K hK=> ?_);refine kX (i:=2) (v:= .int .u16 (mr / 65536 % 65536)) (cs':= #[.int .u8 1,.int .u32 s,.int .u16 (mr / 65536 % 65536),.int .u32 d,.int .u16 0,.int .u8 0,.slice none 0 0]) (by rfl) (by rfl) HXf.out rfl (by (have m_:=(blk_cell HXf.out 2).trans (rfl:_=some (.int .u16 0:Value)));(have mf_:=blk_frozen HXf.out 2);first|(go_simp;done)|(go_simp;rfl)) ?_;intro w14 hs_ off_;replace aU:=oX off_ aU HXf (by decide);replace HXq:=oN off_ HXq bP;replace bZ:=oN off_ bZ mJ;replace bW:=oR off_ bW HXf (by decide)
    replace HRb:=oR off_ HRb HXf (by decide);replace HXp:=oX off_ HXp HXf (by decide);replace dB:=oR off_ dB HXf (by decide);replace oL:=oX off_ oL HXf (by decide);replace HRi:=oI off_ HRi HXf (by decide);replace HB:=oB off_ HB GHXf;clear off_;replace HXf:=Aside0.mk hs_;clear hs_;refine hK.out _ _ ((blk_cell oL.out 3).trans rfl) (fun hHeld=> ?_);clear hK K;refine pz 11 78 HT_ ?_;refine pz 12 79 HT_ ?_;refine oz 13 (none) HT_ (fun K hK=> ?_);refine kX (i:=4) (v:= .int .u16 (mr / 65536 % 65536)) (cs':= #[.int .u8 1,.int .u32 s,.int .u16 (mr / 65536 % 65536),.int .u32 d,.int .u16 (mr / 65536 % 65536),.int .u8 0,.slice none 0 0]) (by rfl) (by rfl) HXf.out rfl (by (have m_:=(blk_cell HXf.out 4).trans (rfl:_=some (.int .u16 0:Value)));(have mf_:=blk_frozen HXf.out 4);first|(go_simp;done)|(go_simp;rfl)) ?_
    intro w15 hs_ off_;replace aU:=oX off_ aU HXf (by decide);replace HXq:=oN off_ HXq bP;replace bZ:=oN off_ bZ mJ;replace bW:=oR off_ bW HXf (by decide);replace HRb:=oR off_ HRb HXf (by decide);replace HXp:=oX off_ HXp HXf (by decide);replace dB:=oR off_ dB HXf (by decide);replace oL:=oX off_ oL HXf (by decide);replace HRi:=oI off_ HRi HXf (by decide);replace HB:=oB off_ HB GHXf;clear off_;replace HXf:=Aside0.mk hs_;clear hs_;refine hK.out _ _ ((blk_cell oL.out 3).trans rfl) (fun hHeld=> ?_);clear hK K;refine dz HT_ ?_;clear HT_ HW_ hHeld
    (try dsimp only)
    go_upto_region 25 with (fail)
    refine start_ (n:=7) (S:=fun w'=>w'.heap[gp]?=some (.cells #[.int .u8 a,.int .u8 t,.int .u8 1,.int .u16 i,.int .u8 fl,.int .u16 of_,.int .u32 s,.int .u32 d,.slice Ao o.length co,.slice Ab b.length cb] 73 (0,0)) /\ w'.heap[gf]?=some (.cells #[.int .u8 1,.int .u32 s,.int .u16 (mr / 65536 % 65536),.int .u32 d,.int .u16 (mr / 65536 % 65536),.int .u8 0,.slice none 0 0] 76 (0,0))) (ds:=[]) #[false,false,false,false,false,false,false] (by kernel_rfl) rfl rfl ⟨HXp.out,HXf.out⟩ (fun hHeld=> ?_);refine with_tabW look.YF.tab look.YF.bits (fun HT_ HW_=> ?_);have hb_:=below_drew1 (Below.refl w15.heap.size w15);replace HB:=mB HB hb_;replace aU:=mX aU hb_;replace HXq:=mX HXq hb_;replace bZ:=mX bZ hb_;replace bW:=mR bW hb_;replace HRb:=mR HRb hb_;replace HXp:=mX HXp hb_;replace dB:=mR dB hb_;replace HXf:=mX HXf hb_
    replace oL:=mX oL hb_;replace HRi:=mI HRi hb_;clear hb_;generalize w15.drew=w16 at HB aU HXq bZ bW HRb HXp dB HXf oL HRi hHeld|-
    refine pz 1 123 HT_ ?_;refine tv 0 122 (.agg #[.int .u8 a,.int .u8 t,.int .u8 1,.int .u16 i,.int .u8 fl,.int .u16 of_,.int .u32 s,.int .u32 d,.slice Ao o.length co,.slice Ab b.length cb]) HT_ HW_ hHeld ?_ ?_
    ·intro w' s0
     obtain ⟨s0,s1⟩:=s0;exact rw_load (p:= .tmp 7) (ty:=73) (by rfl) (by rfl) s0 hu73 (by rfl) HI73.out
    refine nz 122 ?_;refine tv 2 124 (.agg #[.int .u8 1,.int .u32 s,.int .u16 (mr / 65536 % 65536),.int .u32 d,.int .u16 (mr / 65536 % 65536),.int .u8 0,.slice none 0 0]) HT_ HW_ hHeld ?_ ?_
    ·intro w' s0
     obtain ⟨s0,s1⟩:=s0;exact rw_load (p:= .tmp 10) (ty:=76) (by rfl) (by rfl) s1 hu76 (by rfl) HI76.out
    refine nz 124 ?_;refine oz 3 (none) HT_ (fun K hK=> ?_);refine cu (by rfl) (by rfl) rfl rfl rfl aU.out HI73.out rfl (by simp [Value.oneCell']) ?_;intro w17 hs_ off_;replace HXq:=oX off_ HXq aU (by decide);replace bZ:=oX off_ bZ aU (by decide);replace bW:=oR off_ bW aU (by decide);replace HRb:=oR off_ HRb aU (by decide);replace HXp:=oN off_ HXp (bC cO);replace dB:=oR off_ dB aU (by decide);replace HXf:=oX off_ HXf aU (by decide);replace oL:=oX off_ oL aU (by decide);replace HRi:=oI off_ HRi aU (by decide);replace HB:=oB off_ HB o6;clear off_;replace aU:=Aside0.mk hs_;clear hs_;refine hK.out _ _ ⟨HXp.out,HXf.out⟩ (fun hHeld=> ?_);clear hK K;refine pz 4 3 HT_ ?_;refine oz 5 (none) HT_ (fun K hK=> ?_);refine cu (by rfl) (by rfl) rfl rfl rfl HXq.out HI76.out rfl (by simp [Value.oneCell']) ?_
    intro w18 hs_ off_;replace aU:=oX off_ aU HXq (by decide);replace bZ:=oN off_ bZ (bC iV);replace bW:=oR off_ bW HXq (by decide);replace HRb:=oR off_ HRb HXq (by decide);replace HXp:=oX off_ HXp HXq (by decide);replace dB:=oR off_ dB HXq (by decide);replace HXf:=oN off_ HXf (bC bP);replace oL:=oX off_ oL HXq (by decide);replace HRi:=oI off_ HRi HXq (by decide);replace HB:=oB off_ HB GHXq;clear off_;replace HXq:=Aside0.mk hs_;clear hs_;refine hK.out _ _ ⟨HXp.out,HXf.out⟩ (fun hHeld=> ?_);clear hK K;refine pz 6 5 HT_ ?_;refine dz HT_ ?_;clear HT_ HW_ hHeld
    (try dsimp only)
    go_wp2
    (try simp only [Exit.inBlock,Exit.then])
    refine bodyPost_ret (jT rfl _ _ _ _ _ _ _ _ (0,0) (0,0) _ _ rfl aU.out hu73 rfl HI73.out rfl HXq.out hu76 rfl HI76.out) rfl ?_;exact ⟨_,_,_,_,rfl,bW.out,HRb.out,⟨_,rfl,dB.out⟩,Kd.bV _ _ _ _ _,HB.out⟩
 ·have KR:(e2==0)=false:=iM ce
  have UD:(e2 !=0)=true:=bne_iff_ne.2 ce;rw [aj ce] at H
  clear ce;obtain rfl:=eF H
  (try dsimp only)
  go_upto_region 7 with (fail)
  refine start_ (n:=7) (S:=fun w'=>w'.heap[gn]?=some (.cells #[.int .u8 0,.int .u32 0,.int .u16 0,.int .u32 0,.int .u16 0,.int .u8 0,.slice none 0 0] 76 (0,0))) (ds:=[]) #[false,false,false,false,false,false,false] (by kernel_rfl) rfl rfl bZ.out (fun hHeld=> ?_);refine with_tabW look.R7.tab look.R7.bits (fun HT_ HW_=> ?_);have hb_:=below_drew1 (Below.refl w6.heap.size w6);replace HB:=mB HB hb_;replace aU:=mX aU hb_;replace HXq:=mX HXq hb_;replace bZ:=mX bZ hb_;replace bW:=mR bW hb_;replace HRb:=mR HRb hb_;replace HXp:=mX HXp hb_;replace dB:=mR dB hb_;clear hb_;generalize w6.drew=w7 at HB aU HXq bZ bW HRb HXp dB hHeld|-
  refine pz 0 34 HT_ ?_;refine pz 2 36 HT_ ?_;refine tv 1 35 (.agg #[.int .u8 0,.int .u32 0,.int .u16 0,.int .u32 0,.int .u16 0,.int .u8 0,.slice none 0 0]) HT_ HW_ hHeld ?_ ?_
  ·intro w' s0
   exact rw_load (p:= .tmp 6) (ty:=76) (by rfl) (by rfl) s0 hu76 (by rfl) HI76.out
  refine nz 35 ?_;refine oz 3 (none) HT_ (fun K hK=> ?_);refine cu (by rfl) (by rfl) rfl rfl rfl aU.out HI73.out rfl (by simp [Value.oneCell']) ?_;intro w8 hs_ off_;replace HXq:=oX off_ HXq aU (by decide);replace bZ:=oX off_ bZ aU (by decide);replace bW:=oR off_ bW aU (by decide);replace HRb:=oR off_ HRb aU (by decide);replace HXp:=oN off_ HXp (bC cO);replace dB:=oR off_ dB aU (by decide);replace HB:=oB off_ HB o6;clear off_;replace aU:=Aside0.mk hs_;clear hs_;refine hK.out _ _ bZ.out (fun hHeld=> ?_);clear hK K;refine pz 4 3 HT_ ?_;refine oz 5 (none) HT_ (fun K hK=> ?_);refine cu (by rfl) (by rfl) rfl rfl rfl HXq.out HI76.out rfl (by simp [Value.oneCell']) ?_;intro w9 hs_ off_;replace aU:=oX off_ aU HXq (by decide);replace bZ:=oN off_ bZ (bC iV)
  replace bW:=oR off_ bW HXq (by decide);replace HRb:=oR off_ HRb HXq (by decide);replace HXp:=oX off_ HXp HXq (by decide);replace dB:=oR off_ dB HXq (by decide);replace HB:=oB off_ HB GHXq;clear off_;replace HXq:=Aside0.mk hs_;clear hs_;refine hK.out _ _ bZ.out (fun hHeld=> ?_);clear hK K;refine pz 6 5 HT_ ?_;refine dz HT_ ?_;clear HT_ HW_ hHeld
  (try dsimp only)
  go_wp2
  (try simp only [Exit.inBlock,Exit.then])
  refine bodyPost_ret (jT rfl _ _ _ _ _ _ _ _ (0,0) (0,0) _ _ rfl aU.out hu73 rfl HI73.out rfl HXq.out hu76 rfl HI76.out) rfl ?_;exact ⟨_,_,_,_,rfl,Kd.bV _ _ _ _ _,Kd.bV _ _ _ _ _,rfl,Kd.bV _ _ _ _ _,HB.out⟩
attribute [local go_sem] xK
attribute [local go_sem] xM
attribute [local go_sem] xN
attribute [local go_sem] xO
attribute [local go_sem] xP
attribute [local go_sem] xQ
attribute [local go_sem] xR
attribute [local go_sem] xU
attribute [local go_sem] xW
attribute [local go_sem] xX
attribute [local go_sem] xY
attribute [local go_sem] xZ
theorem look.AaF (k:Nat) (A:Option Addr) (c:Nat) (l:List Int) (a t pr i fl of_ s d:Int) (o b:List Int) (e_:Int) (w:World) (hC:Kd.C (Kd.int .u8) w A l.length l) (hL:l.length<=c) (hP:dL.f k l=some (a,t,pr,i,fl,of_,s,d,o,b,e_)) (he:¬ e_=0):
  Calls Try.prog 69 #[.slice A l.length c] w fun e w'=>(LK.err e_).Post w.heap.size w e w':=by
 have hu73:=Try.underlying73;have hu76:=Try.underlying76;have HB:=jy w;have HC:=Aside0.mk hC;have HL:=Aside0.mk hL;have HP:=Aside0.mk hP;have HI73:Aside0 ((Try.prog.info? 73).map (·.size)=some 10):=⟨by kernel_rfl⟩
 have HI76:Aside0 ((Try.prog.info? 76).map (·.size)=some 7):=⟨by kernel_rfl⟩
 clear hC hL hP
 go_enter Try.func69,Try.ntmps69
 go_upto_region 2 with (first|((with_reducible refine gate_dst (N:=2) rfl ?_);refine box_event ?hg_ (N:=2) ?hd_ (cs:= #[.int .u8 0,.int .u8 0,.int .u8 0,.int .u16 0,.int .u8 0,.int .u16 0,.int .u32 0,.int .u32 0,.slice none 0 0,.slice none 0 0]) (t:=73) ?hr_ ?_;(case hd_=>rfl);(case hg_=>rfl);(case hr_=>first|(go_simp;done)|(go_simp;rfl));intro gi hgg_ w1 hbox_ hbb_;have o6:=Aside0.mk (show w.heap.size<=gi by rw [hgg_];exact below_size HB.out);have aU:=Aside0.mk hbox_;have hb_:=hbb_;replace HB:=mB HB hb_;clear hb_;clear hgg_ hbox_ hbb_)|((with_reducible refine gate_dst (N:=4) rfl ?_);refine box_event ?hg_ (N:=4) ?hd_ (cs:= #[.int .u8 0,.int .u32 0,.int .u16 0,.int .u32 0,.int .u16 0,.int .u8 0,.slice none 0 0]) (t:=76) ?hr_ ?_;(case hd_=>rfl);(case hg_=>rfl);(case hr_=>first|(go_simp;done)|(go_simp;rfl));intro gq hgg_ w2 hbox_ hbb_;have GHXq:=Aside0.mk (show w.heap.size<=gq by rw [hgg_];exact below_size HB.out);have HXq:=Aside0.mk hbox_;have hb_:=hbb_;replace HB:=mB HB hb_;replace aU:=mX aU hb_;clear hb_;clear hgg_ hbox_ hbb_)|((refine iy rfl rfl rfl rfl rfl HI76.out rfl (by simp [Value.oneCell']) ?_);intro jm jU dP))
 revert jm jU dP;intro w3 jU dP;have bZ:Aside0 (w3.heap[w2.heap.size]?=some (.cells #[.int .u8 0,.int .u32 0,.int .u16 0,.int .u32 0,.int .u16 0,.int .u8 0,.slice none 0 0] 76 (0,0))):=⟨jU⟩
 have IV:=FO HB;have iV:=blk_less HXq;have hb_:=dP;replace HB:=mB HB hb_;replace aU:=mX aU hb_;replace HXq:=mX HXq hb_;clear hb_;clear jU dP;generalize w2.heap.size=gn at bZ IV iV|-
 go_wp2_with fail
 refine (dL.calls k A c l a t pr i fl of_ s d o b e_ _ (Kd.aJ HC.out HB.out) HL.out HP.out).mono ?_;rintro ev w4 ⟨vo,vb,rfl,ho,ho2,hb⟩;have bW:=qP ho HB;obtain ⟨Ao,co,rfl,_,_⟩:=Kd.R_reads ho;clear ho;have HRb:=qP ho2 HB;obtain ⟨Ab,cb,rfl,_,_⟩:=Kd.R_reads ho2;clear ho2;have hb_:=hb;replace HB:=mB HB hb_;replace aU:=mX aU hb_;replace HXq:=mX HXq hb_;replace bZ:=mX bZ hb_;clear hb_;clear hb HP HC HL
 (try dsimp only)
 go_upto_region 3 with (((refine iy rfl rfl rfl rfl rfl HI73.out rfl (by simp [Value.oneCell']) ?_);intro jm jU dP))
 revert jm jU dP;intro w5 jU dP;have HXp:Aside0 (w5.heap[w4.heap.size]?=some (.cells #[.int .u8 a,.int .u8 t,.int .u8 pr,.int .u16 i,.int .u8 fl,.int .u16 of_,.int .u32 s,.int .u32 d,.slice Ao o.length co,.slice Ab b.length cb] 73 (0,0))):=⟨jU⟩
 have GHXp:=FO HB;have cO:=blk_less aU;have hb_:=dP;replace HB:=mB HB hb_;replace aU:=mX aU hb_;replace HXq:=mX HXq hb_;replace bZ:=mX bZ hb_;replace bW:=mR bW hb_;replace HRb:=mR HRb hb_;clear hb_;clear jU dP;generalize w4.heap.size=gp at HXp GHXp cO|-
 have he1:(e_==0)=false:=iM he;have he2:(e_ !=0)=true:=bne_iff_ne.2 he;clear he;have H:some (LK.err e_)=some (LK.err e_):=rfl
 (try dsimp only)
 go_upto_region 4 with (fail)
 refine start_ (n:=7) (S:=fun w'=>w'.heap[gn]?=some (.cells #[.int .u8 0,.int .u32 0,.int .u16 0,.int .u32 0,.int .u16 0,.int .u8 0,.slice none 0 0] 76 (0,0))) (ds:=[]) #[false,false,false,false,false,false,false] (by kernel_rfl) rfl rfl bZ.out (fun hHeld=> ?_);refine with_tabW look.R4.tab look.R4.bits (fun HT_ HW_=> ?_);have hb_:=below_drew1 (Below.refl w5.heap.size w5);replace HB:=mB HB hb_;replace aU:=mX aU hb_;replace HXq:=mX HXq hb_;replace bZ:=mX bZ hb_;replace bW:=mR bW hb_;replace HRb:=mR HRb hb_;replace HXp:=mX HXp hb_;clear hb_;generalize w5.drew=w6 at HB aU HXq bZ bW HRb HXp hHeld|-
 refine pz 0 24 HT_ ?_;refine pz 2 26 HT_ ?_;refine tv 1 25 (.agg #[.int .u8 0,.int .u32 0,.int .u16 0,.int .u32 0,.int .u16 0,.int .u8 0,.slice none 0 0]) HT_ HW_ hHeld ?_ ?_
 ·intro w' s0
  exact rw_load (p:= .tmp 6) (ty:=76) (by rfl) (by rfl) s0 hu76 (by rfl) HI76.out
 refine nz 25 ?_;refine oz 3 (none) HT_ (fun K hK=> ?_);refine cu (by rfl) (by rfl) rfl rfl rfl aU.out HI73.out rfl (by simp [Value.oneCell']) ?_;intro w7 hs_ off_;replace HXq:=oX off_ HXq aU (by decide);replace bZ:=oX off_ bZ aU (by decide);replace bW:=oR off_ bW aU (by decide);replace HRb:=oR off_ HRb aU (by decide);replace HXp:=oN off_ HXp (bC cO);replace HB:=oB off_ HB o6;clear off_;replace aU:=Aside0.mk hs_;clear hs_;refine hK.out _ _ bZ.out (fun hHeld=> ?_);clear hK K;refine pz 4 3 HT_ ?_;refine oz 5 (none) HT_ (fun K hK=> ?_);refine cu (by rfl) (by rfl) rfl rfl rfl HXq.out HI76.out rfl (by simp [Value.oneCell']) ?_;intro w8 hs_ off_;replace aU:=oX off_ aU HXq (by decide);replace bZ:=oN off_ bZ (bC iV);replace bW:=oR off_ bW HXq (by decide);replace HRb:=oR off_ HRb HXq (by decide)
 replace HXp:=oX off_ HXp HXq (by decide);replace HB:=oB off_ HB GHXq;clear off_;replace HXq:=Aside0.mk hs_;clear hs_;refine hK.out _ _ bZ.out (fun hHeld=> ?_);clear hK K;refine pz 6 5 HT_ ?_;refine dz HT_ ?_;clear HT_ HW_ hHeld
 (try dsimp only)
 go_wp2
 (try simp only [Exit.inBlock,Exit.then])
 refine bodyPost_ret (jT rfl _ _ _ _ _ _ _ _ (0,0) (0,0) _ _ rfl aU.out hu73 rfl HI73.out rfl HXq.out hu76 rfl HI76.out) rfl ?_;exact ⟨_,_,_,_,rfl,Kd.bV _ _ _ _ _,Kd.bV _ _ _ _ _,rfl,Kd.bV _ _ _ _ _,HB.out⟩
theorem look.AaG (k:Nat) (A:Option Addr) (c:Nat) (l:List Int) (a t pr i fl of_ s d:Int) (o b:List Int) (w:World) (hC:Kd.C (Kd.int .u8) w A l.length l) (hL:l.length<=c) (hP:dL.f k l=some (a,t,pr,i,fl,of_,s,d,o,b,0)) (n17:¬ pr=17) (n6:¬ pr=6) (n1:¬ pr=1):
  Calls Try.prog 69 #[.slice A l.length c] w fun e w'=>(LK.err 21).Post w.heap.size w e w':=by
 have hu73:=Try.underlying73;have hu76:=Try.underlying76;have HB:=jy w;have HC:=Aside0.mk hC;have HL:=Aside0.mk hL;have HP:=Aside0.mk hP;have HI73:Aside0 ((Try.prog.info? 73).map (·.size)=some 10):=⟨by kernel_rfl⟩
 have HI76:Aside0 ((Try.prog.info? 76).map (·.size)=some 7):=⟨by kernel_rfl⟩
 clear hC hL hP
 go_enter Try.func69,Try.ntmps69
 go_upto_region 2 with (first|((with_reducible refine gate_dst (N:=2) rfl ?_);refine box_event ?hg_ (N:=2) ?hd_ (cs:= #[.int .u8 0,.int .u8 0,.int .u8 0,.int .u16 0,.int .u8 0,.int .u16 0,.int .u32 0,.int .u32 0,.slice none 0 0,.slice none 0 0]) (t:=73) ?hr_ ?_;(case hd_=>rfl);(case hg_=>rfl);(case hr_=>first|(go_simp;done)|(go_simp;rfl));intro gi hgg_ w1 hbox_ hbb_;have o6:=Aside0.mk (show w.heap.size<=gi by rw [hgg_];exact below_size HB.out);have aU:=Aside0.mk hbox_;have hb_:=hbb_;replace HB:=mB HB hb_;clear hb_;clear hgg_ hbox_ hbb_)|((with_reducible refine gate_dst (N:=4) rfl ?_);refine box_event ?hg_ (N:=4) ?hd_ (cs:= #[.int .u8 0,.int .u32 0,.int .u16 0,.int .u32 0,.int .u16 0,.int .u8 0,.slice none 0 0]) (t:=76) ?hr_ ?_;(case hd_=>rfl);(case hg_=>rfl);(case hr_=>first|(go_simp;done)|(go_simp;rfl));intro gq hgg_ w2 hbox_ hbb_;have GHXq:=Aside0.mk (show w.heap.size<=gq by rw [hgg_];exact below_size HB.out);have HXq:=Aside0.mk hbox_;have hb_:=hbb_;replace HB:=mB HB hb_;replace aU:=mX aU hb_;clear hb_;clear hgg_ hbox_ hbb_)|((refine iy rfl rfl rfl rfl rfl HI76.out rfl (by simp [Value.oneCell']) ?_);intro jm jU dP))
 revert jm jU dP;intro w3 jU dP;have bZ:Aside0 (w3.heap[w2.heap.size]?=some (.cells #[.int .u8 0,.int .u32 0,.int .u16 0,.int .u32 0,.int .u16 0,.int .u8 0,.slice none 0 0] 76 (0,0))):=⟨jU⟩
 have IV:=FO HB;have iV:=blk_less HXq;have hb_:=dP;replace HB:=mB HB hb_;replace aU:=mX aU hb_;replace HXq:=mX HXq hb_;clear hb_;clear jU dP;generalize w2.heap.size=gn at bZ IV iV|-
 go_wp2_with fail
 refine (dL.calls k A c l a t pr i fl of_ s d o b 0 _ (Kd.aJ HC.out HB.out) HL.out HP.out).mono ?_;rintro ev w4 ⟨vo,vb,rfl,ho,ho2,hb⟩;have bW:=qP ho HB;obtain ⟨Ao,co,rfl,_,_⟩:=Kd.R_reads ho;clear ho;have HRb:=qP ho2 HB;obtain ⟨Ab,cb,rfl,_,_⟩:=Kd.R_reads ho2;clear ho2;have hb_:=hb;replace HB:=mB HB hb_;replace aU:=mX aU hb_;replace HXq:=mX HXq hb_;replace bZ:=mX bZ hb_;clear hb_;clear hb HP HC HL
 (try dsimp only)
 go_upto_region 3 with (((refine iy rfl rfl rfl rfl rfl HI73.out rfl (by simp [Value.oneCell']) ?_);intro jm jU dP))
 revert jm jU dP;intro w5 jU dP;have HXp:Aside0 (w5.heap[w4.heap.size]?=some (.cells #[.int .u8 a,.int .u8 t,.int .u8 pr,.int .u16 i,.int .u8 fl,.int .u16 of_,.int .u32 s,.int .u32 d,.slice Ao o.length co,.slice Ab b.length cb] 73 (0,0))):=⟨jU⟩
 have GHXp:=FO HB;have cO:=blk_less aU;have hb_:=dP;replace HB:=mB HB hb_;replace aU:=mX aU hb_;replace HXq:=mX HXq hb_;replace bZ:=mX bZ hb_;replace bW:=mR bW hb_;replace HRb:=mR HRb hb_;clear hb_;clear jU dP;generalize w4.heap.size=gp at HXp GHXp cO|-
 have he1:((0:Int)==0)=true:=rfl;have he2:((0:Int) !=0)=false:=rfl
 (try dsimp only)
 go_wp2_with (refine Kd.event_run rfl (rw_load rfl rfl HXp.out Try.underlying73 rfl HI73.out) ?_)
 clear he1 he2;refine (uK.Zq a t i fl of_ s d Ao o.length co Ab cb b pr _ n17 n6 n1).mono ?_;rintro ev w6 ⟨rfl,hb⟩;have hb_:=hb;replace HB:=mB HB hb_;replace aU:=mX aU hb_;replace HXq:=mX HXq hb_;replace bZ:=mX bZ hb_;replace bW:=mR bW hb_;replace HRb:=mR HRb hb_;replace HXp:=mX HXp hb_;clear hb_;clear hb;have H:some (LK.err 21)=some (LK.err 21):=rfl
 (try dsimp only)
 go_upto_region 7 with (fail)
 refine start_ (n:=7) (S:=fun w'=>w'.heap[gn]?=some (.cells #[.int .u8 0,.int .u32 0,.int .u16 0,.int .u32 0,.int .u16 0,.int .u8 0,.slice none 0 0] 76 (0,0))) (ds:=[]) #[false,false,false,false,false,false,false] (by kernel_rfl) rfl rfl bZ.out (fun hHeld=> ?_);refine with_tabW look.R7.tab look.R7.bits (fun HT_ HW_=> ?_);have hb_:=below_drew1 (Below.refl w6.heap.size w6);replace HB:=mB HB hb_;replace aU:=mX aU hb_;replace HXq:=mX HXq hb_;replace bZ:=mX bZ hb_;replace bW:=mR bW hb_;replace HRb:=mR HRb hb_;replace HXp:=mX HXp hb_;clear hb_;generalize w6.drew=w7 at HB aU HXq bZ bW HRb HXp hHeld|-
 refine pz 0 34 HT_ ?_;refine pz 2 36 HT_ ?_;refine tv 1 35 (.agg #[.int .u8 0,.int .u32 0,.int .u16 0,.int .u32 0,.int .u16 0,.int .u8 0,.slice none 0 0]) HT_ HW_ hHeld ?_ ?_
 ·intro w' s0
  exact rw_load (p:= .tmp 6) (ty:=76) (by rfl) (by rfl) s0 hu76 (by rfl) HI76.out
 refine nz 35 ?_;refine oz 3 (none) HT_ (fun K hK=> ?_);refine cu (by rfl) (by rfl) rfl rfl rfl aU.out HI73.out rfl (by simp [Value.oneCell']) ?_;intro w8 hs_ off_;replace HXq:=oX off_ HXq aU (by decide);replace bZ:=oX off_ bZ aU (by decide);replace bW:=oR off_ bW aU (by decide);replace HRb:=oR off_ HRb aU (by decide);replace HXp:=oN off_ HXp (bC cO);replace HB:=oB off_ HB o6;clear off_;replace aU:=Aside0.mk hs_;clear hs_;refine hK.out _ _ bZ.out (fun hHeld=> ?_);clear hK K;refine pz 4 3 HT_ ?_;refine oz 5 (none) HT_ (fun K hK=> ?_);refine cu (by rfl) (by rfl) rfl rfl rfl HXq.out HI76.out rfl (by simp [Value.oneCell']) ?_;intro w9 hs_ off_;replace aU:=oX off_ aU HXq (by decide);replace bZ:=oN off_ bZ (bC iV);replace bW:=oR off_ bW HXq (by decide);replace HRb:=oR off_ HRb HXq (by decide)
 replace HXp:=oX off_ HXp HXq (by decide);replace HB:=oB off_ HB GHXq;clear off_;replace HXq:=Aside0.mk hs_;clear hs_;refine hK.out _ _ bZ.out (fun hHeld=> ?_);clear hK K;refine pz 6 5 HT_ ?_;refine dz HT_ ?_;clear HT_ HW_ hHeld
 (try dsimp only)
 go_wp2
 (try simp only [Exit.inBlock,Exit.then])
 refine bodyPost_ret (jT rfl _ _ _ _ _ _ _ _ (0,0) (0,0) _ _ rfl aU.out hu73 rfl HI73.out rfl HXq.out hu76 rfl HI76.out) rfl ?_;exact ⟨_,_,_,_,rfl,Kd.bV _ _ _ _ _,Kd.bV _ _ _ _ _,rfl,Kd.bV _ _ _ _ _,HB.out⟩
attribute [local go_sem] xK
attribute [local go_sem] xM
attribute [local go_sem] xN
attribute [local go_sem] xO
attribute [local go_sem] xP
attribute [local go_sem] xQ
attribute [local go_sem] xR
attribute [local go_sem] xU
attribute [local go_sem] xW
attribute [local go_sem] xX
attribute [local go_sem] xY
attribute [local go_sem] xZ
theorem pointed.Ade (k:Nat) (si sp di dp:Int) (mt mc ms mr:Int) (mb:List Int) (vmb:Value) (r:List Int) (w:World) {base:Nat} (hmb:Kd.R (Kd.int .u8) 5 w base (fun _=>True) vmb mb) (H:pointed.f k si sp di dp (.Gw mt mc ms mr mb)=some r):
  Calls Try.prog 70 #[.iface 183 (.agg #[.int .u8 mt,.int .u8 mc,.int .u16 ms,.int .u32 mr,vmb]),.agg #[.int .u32 si,.int .u16 sp],.agg #[.int .u32 di,.int .u16 dp]] w fun e w'=>∃ vz:Value,e= .returned vz /\ Kd.R (Kd.int .u8) 5 w' w.heap.size (fun _=>True) vz r /\ Below w.heap.size w w':=by
 have hu65:=Try.underlying65;have F7:=Try.underlying83;have Ag:=Try.underlying137;have uQ:=Try.underlying101;have QX:=Try.underlying179;have Rl:=Try.underlying181;have Rw:=Try.underlying183;unfold pointed.f at H
 have HB:=jy w;have HI65:Aside0 ((Try.prog.info? 65).map (·.size)=some 2):=⟨by kernel_rfl⟩
 have Ei:Aside0 ((Try.prog.info? 83).map (·.size)=some 4):=⟨by kernel_rfl⟩
 have qV:Aside0 ((Try.prog.info? 137).map (·.size)=some 10):=⟨by kernel_rfl⟩
 have ou:Aside0 ((Try.prog.info? 101).map (·.size)=some 5):=⟨by kernel_rfl⟩
 have V8:Aside0 ((Try.prog.info? 179).map (·.size)=some 4):=⟨by kernel_rfl⟩
 have V9:Aside0 ((Try.prog.info? 181).map (·.size)=some 10):=⟨by kernel_rfl⟩
 have AaE:Aside0 ((Try.prog.info? 183).map (·.size)=some 5):=⟨by kernel_rfl⟩
 obtain ⟨KP,KQ,rfl,_,_⟩:=Kd.R_reads hmb;have dB:=Aside0.mk hmb;clear hmb;have HG:=Aside0.mk H;clear H
 go_enter Try.func70,Try.ntmps70
 go_upto_region 2 with (first|((with_reducible refine gate_dst (N:=4) rfl ?_);refine box_event ?hg_ (N:=4) ?hd_ (cs:= #[.int .u32 si,.int .u16 sp]) (t:=65) ?hr_ ?_;(case hd_=>rfl);(case hg_=>rfl);(case hr_=>first|(go_simp;done)|(go_simp;rfl));intro gs hgg_ w1 hbox_ hbb_;have GHXs:=Aside0.mk (show w.heap.size<=gs by rw [hgg_];exact below_size HB.out);have HXs:=Aside0.mk hbox_;have hb_:=hbb_;replace HB:=mB HB hb_;replace dB:=mR dB hb_;clear hb_;clear hgg_ hbox_ hbb_)|((with_reducible refine gate_dst (N:=5) rfl ?_);refine box_event ?hg_ (N:=5) ?hd_ (cs:= #[.int .u32 di,.int .u16 dp]) (t:=65) ?hr_ ?_;(case hd_=>rfl);(case hg_=>rfl);(case hr_=>first|(go_simp;done)|(go_simp;rfl));intro gd hgg_ w2 hbox_ hbb_;have GHXd:=Aside0.mk (show w.heap.size<=gd by rw [hgg_];exact below_size HB.out);have HXd:=Aside0.mk hbox_;have NE_HXs_HXd:Aside0 (gs≠gd):=⟨by rw [hgg_];exact (blk_less HXs).out⟩;have hb_:=hbb_;replace HB:=mB HB hb_;replace dB:=mR dB hb_;replace HXs:=mX HXs hb_;clear hb_;clear hgg_ hbox_ hbb_))
 go_wp2_with fail
 refine (o5.calls mt mc ms mr KP KQ mb 1 _ (Kd.R_reads' dB.out).2.2 (Kd.R_reads' dB.out).2.1 rfl).mono ?_;rintro ev w3 ⟨rfl,hb⟩;have hb_:=hb;replace HB:=mB HB hb_;replace dB:=mR dB hb_;replace HXs:=mX HXs hb_;replace HXd:=mX HXd hb_;clear hb_;clear hb
 (try dsimp only)
 go_upto_region 4 with (((refine iy rfl rfl rfl rfl rfl ou.out rfl (by simp [Value.oneCell']) ?_);intro jm jU dP))
 revert jm jU dP;intro w4 jU dP;have fG:Aside0 (w4.heap[w3.heap.size]?=some (.cells #[.int .u8 mt,.int .u8 mc,.int .u16 ms,.int .u32 mr,.slice KP mb.length KQ] 101 (0,0))):=⟨jU⟩
 have Bq:=FO HB;have hb_:=dP;replace HB:=mB HB hb_;replace dB:=mR dB hb_;replace HXs:=mX HXs hb_;replace HXd:=mX HXd hb_;clear hb_;clear jU dP;generalize w3.heap.size=gu at fG Bq|-
 have H:=HG.out;clear HG;obtain ⟨ec,hec,H⟩:=dI H;have HG:=Aside0.mk H;clear H
 (try dsimp only)
 go_wp2_with (refine Kd.event_run rfl (rw_load rfl rfl fG.out Try.underlying101 rfl ou.out) ?_)
 refine (oJ.calls mt mc ms mr KP KQ mb ec _ (Kd.R_reads' dB.out).2.2 (Kd.R_reads' dB.out).2.1 hec).mono ?_;rintro ev w5 ⟨rfl,hb⟩;clear hec;have hb_:=hb;replace HB:=mB HB hb_;replace dB:=mR dB hb_;replace HXs:=mX HXs hb_;replace HXd:=mX HXd hb_;replace fG:=mX fG hb_;clear hb_;clear hb;have H:=HG.out;clear HG
 cases ec with
 |false=>
  rw [aj (by decide)] at H
  (try dsimp only)
  obtain ⟨s,hs,H⟩:=dI H;have HG:=Aside0.mk H;clear H
  go_wp2_with (refine Kd.event_run rfl (rw_load rfl rfl fG.out Try.underlying101 rfl ou.out) ?_)
  refine (Ak.calls k mt mc ms mr KP KQ mb s _ (Kd.R_reads' dB.out).2.2 (Kd.R_reads' dB.out).2.1 hs).mono ?_;rintro ev w6 ⟨rfl,hb⟩;clear hs;have hb_:=hb;replace HB:=mB HB hb_;replace dB:=mR dB hb_;replace HXs:=mX HXs hb_;replace HXd:=mX HXd hb_;replace fG:=mX fG hb_;clear hb_;clear hb
  (try dsimp only)
  go_upto_region 7 with (((refine rw_set rfl rfl (i:=2) (v:= .int .u16 s) (cs':= #[.int .u8 mt,.int .u8 mc,.int .u16 s,.int .u32 mr,.slice KP mb.length KQ]) fG.out rfl ?hr_ ?_);(case hr_=>(have m_:=(blk_cell fG.out 2).trans (rfl:_=some (.int .u16 ms:Value)));(have mf_:=blk_frozen fG.out 2);first|(go_simp;done)|(go_simp;rfl));intro w7 hs_ off_;replace dB:=oR off_ dB fG (by decide);replace HXs:=oX off_ HXs fG (by decide);replace HXd:=oX off_ HXd fG (by decide);replace HB:=oB off_ HB Bq;clear off_;replace fG:=Aside0.mk hs_;clear hs_))
  have H:=HG.out;clear HG;obtain ⟨⟨rz,re⟩,hz,H⟩:=dI H;obtain rfl:=eF H
  (try dsimp only)
  go_wp2_with (refine Kd.event_run rfl (rw_load rfl rfl fG.out Try.underlying101 rfl ou.out) ?_)
  refine (kJ.calls mt mc s mr KP KQ mb rz re _ (Kd.R_reads' dB.out).2.2 (Kd.R_reads' dB.out).2.1 hz).mono ?_;rintro ev w8 ⟨vz,rfl,ho,hb⟩;clear hz;have HRz:=qP ho HB;clear ho;have hb_:=hb;replace HB:=mB HB hb_;replace dB:=mR dB hb_;replace HXs:=mX HXs hb_;replace HXd:=mX HXd hb_;replace fG:=mX fG hb_;clear hb_;clear hb
  (try dsimp only)
  go_wp2
  (try simp only [Exit.inBlock,Exit.then])
  go_ret
  exact ⟨_,rfl,HRz.out,HB.out⟩
 |true=>
  rw [ah rfl] at H
  have HG:=Aside0.mk H;clear H;have Auq:=cz fG.out 3 rfl;have gs_1:=cz HXs.out 1 rfl
  (try dsimp only)
  go_upto_region 6 with (((refine rw_set rfl rfl (i:=3) (v:= .int .u32 (Go.bits .or .u32 (Go.bits .and .u32 mr 65535) (sp % 4294967296*65536 % 4294967296))) (cs':= #[.int .u8 mt,.int .u8 mc,.int .u16 ms,.int .u32 (Go.bits .or .u32 (Go.bits .and .u32 mr 65535) (sp % 4294967296*65536 % 4294967296)),.slice KP mb.length KQ]) fG.out rfl ?hr_ ?_);(case hr_=>(have m_:=(blk_cell fG.out 3).trans (rfl:_=some (.int .u32 mr:Value)));(have mf_:=blk_frozen fG.out 3);first|(go_simp;done)|(go_simp;rfl));intro w6 hs_ off_;replace dB:=oR off_ dB fG (by decide);replace HXs:=oX off_ HXs fG (by decide);replace HXd:=oX off_ HXd fG (by decide);replace HB:=oB off_ HB Bq;clear off_;replace fG:=Aside0.mk hs_;clear hs_))
  clear Auq gs_1;have H:=HG.out;clear HG;obtain ⟨s,hs,H⟩:=dI H;have HG:=Aside0.mk H;clear H
  go_wp2_with (refine Kd.event_run rfl (rw_load rfl rfl fG.out Try.underlying101 rfl ou.out) ?_)
  refine (Ak.calls k mt mc ms (Go.bits .or .u32 (Go.bits .and .u32 mr 65535) (sp % 4294967296*65536 % 4294967296)) KP KQ mb s _ (Kd.R_reads' dB.out).2.2 (Kd.R_reads' dB.out).2.1 hs).mono ?_;rintro ev w7 ⟨rfl,hb⟩;clear hs;have hb_:=hb;replace HB:=mB HB hb_;replace dB:=mR dB hb_;replace HXs:=mX HXs hb_;replace HXd:=mX HXd hb_;replace fG:=mX fG hb_;clear hb_;clear hb
  (try dsimp only)
  go_upto_region 7 with (((refine rw_set rfl rfl (i:=2) (v:= .int .u16 s) (cs':= #[.int .u8 mt,.int .u8 mc,.int .u16 s,.int .u32 (Go.bits .or .u32 (Go.bits .and .u32 mr 65535) (sp % 4294967296*65536 % 4294967296)),.slice KP mb.length KQ]) fG.out rfl ?hr_ ?_);(case hr_=>(have m_:=(blk_cell fG.out 2).trans (rfl:_=some (.int .u16 ms:Value)));(have mf_:=blk_frozen fG.out 2);first|(go_simp;done)|(go_simp;rfl));intro w8 hs_ off_;replace dB:=oR off_ dB fG (by decide);replace HXs:=oX off_ HXs fG (by decide);replace HXd:=oX off_ HXd fG (by decide);replace HB:=oB off_ HB Bq;clear off_;replace fG:=Aside0.mk hs_;clear hs_))
  have H:=HG.out;clear HG;obtain ⟨⟨rz,re⟩,hz,H⟩:=dI H;obtain rfl:=eF H
  (try dsimp only)
  go_wp2_with (refine Kd.event_run rfl (rw_load rfl rfl fG.out Try.underlying101 rfl ou.out) ?_)
  refine (kJ.calls mt mc s (Go.bits .or .u32 (Go.bits .and .u32 mr 65535) (sp % 4294967296*65536 % 4294967296)) KP KQ mb rz re _ (Kd.R_reads' dB.out).2.2 (Kd.R_reads' dB.out).2.1 hz).mono ?_;rintro ev w9 ⟨vz,rfl,ho,hb⟩;clear hz;have HRz:=qP ho HB;clear ho;have hb_:=hb;replace HB:=mB HB hb_;replace dB:=mR dB hb_;replace HXs:=mX HXs hb_;replace HXd:=mX HXd hb_;replace fG:=mX fG hb_;clear hb_;clear hb
  (try dsimp only)
  go_wp2
  (try simp only [Exit.inBlock,Exit.then])
  go_ret
  exact ⟨_,rfl,HRz.out,HB.out⟩
attribute [local go_sem] xK
attribute [local go_sem] xM
attribute [local go_sem] xN
attribute [local go_sem] xO
attribute [local go_sem] xP
attribute [local go_sem] xQ
attribute [local go_sem] xR
attribute [local go_sem] xU
attribute [local go_sem] xW
attribute [local go_sem] xX
attribute [local go_sem] xY
attribute [local go_sem] xZ
theorem look.Ai6 (k:Nat) (A:Option Addr) (c:Nat) (l:List Int) (a t i fl of_ s d:Int) (o b:List Int) (r:LK) (w:World) (hC:Kd.C (Kd.int .u8) w A l.length l) (hL:l.length<=c) (hP:dL.f k l=some (a,t,17,i,fl,of_,s,d,o,b,0)) (h:Ee k a t i fl of_ s d o b=some r):
  Calls Try.prog 69 #[.slice A l.length c] w fun e w'=>r.Post w.heap.size w e w':=by
 have hu73:=Try.underlying73;have hu76:=Try.underlying76;have F7:=Try.underlying83;have Ag:=Try.underlying137;have uQ:=Try.underlying101;have QX:=Try.underlying179;have Rl:=Try.underlying181;have Rw:=Try.underlying183;have HB:=jy w;have HC:=Aside0.mk hC;have HL:=Aside0.mk hL;have HP:=Aside0.mk hP;have HF:=Aside0.mk h;have HI73:Aside0 ((Try.prog.info? 73).map (·.size)=some 10):=⟨by kernel_rfl⟩
 have HI76:Aside0 ((Try.prog.info? 76).map (·.size)=some 7):=⟨by kernel_rfl⟩
 have Ei:Aside0 ((Try.prog.info? 83).map (·.size)=some 4):=⟨by kernel_rfl⟩
 have qV:Aside0 ((Try.prog.info? 137).map (·.size)=some 10):=⟨by kernel_rfl⟩
 have ou:Aside0 ((Try.prog.info? 101).map (·.size)=some 5):=⟨by kernel_rfl⟩
 have V8:Aside0 ((Try.prog.info? 179).map (·.size)=some 4):=⟨by kernel_rfl⟩
 have V9:Aside0 ((Try.prog.info? 181).map (·.size)=some 10):=⟨by kernel_rfl⟩
 have AaE:Aside0 ((Try.prog.info? 183).map (·.size)=some 5):=⟨by kernel_rfl⟩
 clear hC hL hP h
 go_enter Try.func69,Try.ntmps69
 go_upto_region 2 with (first|((with_reducible refine gate_dst (N:=2) rfl ?_);refine box_event ?hg_ (N:=2) ?hd_ (cs:= #[.int .u8 0,.int .u8 0,.int .u8 0,.int .u16 0,.int .u8 0,.int .u16 0,.int .u32 0,.int .u32 0,.slice none 0 0,.slice none 0 0]) (t:=73) ?hr_ ?_;(case hd_=>rfl);(case hg_=>rfl);(case hr_=>first|(go_simp;done)|(go_simp;rfl));intro gi hgg_ w1 hbox_ hbb_;have o6:=Aside0.mk (show w.heap.size<=gi by rw [hgg_];exact below_size HB.out);have aU:=Aside0.mk hbox_;have hb_:=hbb_;replace HB:=mB HB hb_;clear hb_;clear hgg_ hbox_ hbb_)|((with_reducible refine gate_dst (N:=4) rfl ?_);refine box_event ?hg_ (N:=4) ?hd_ (cs:= #[.int .u8 0,.int .u32 0,.int .u16 0,.int .u32 0,.int .u16 0,.int .u8 0,.slice none 0 0]) (t:=76) ?hr_ ?_;(case hd_=>rfl);(case hg_=>rfl);(case hr_=>first|(go_simp;done)|(go_simp;rfl));intro gq hgg_ w2 hbox_ hbb_;have GHXq:=Aside0.mk (show w.heap.size<=gq by rw [hgg_];exact below_size HB.out);have HXq:=Aside0.mk hbox_;have hb_:=hbb_;replace HB:=mB HB hb_;replace aU:=mX aU hb_;clear hb_;clear hgg_ hbox_ hbb_)|((refine iy rfl rfl rfl rfl rfl HI76.out rfl (by simp [Value.oneCell']) ?_);intro jm jU dP))
 revert jm jU dP;intro w3 jU dP;have bZ:Aside0 (w3.heap[w2.heap.size]?=some (.cells #[.int .u8 0,.int .u32 0,.int .u16 0,.int .u32 0,.int .u16 0,.int .u8 0,.slice none 0 0] 76 (0,0))):=⟨jU⟩
 have IV:=FO HB;have iV:=blk_less HXq;have hb_:=dP;replace HB:=mB HB hb_;replace aU:=mX aU hb_;replace HXq:=mX HXq hb_;clear hb_;clear jU dP;generalize w2.heap.size=gn at bZ IV iV|-
 go_wp2_with fail
 refine (dL.calls k A c l a t 17 i fl of_ s d o b 0 _ (Kd.aJ HC.out HB.out) HL.out HP.out).mono ?_;rintro ev w4 ⟨vo,vb,rfl,ho,ho2,hb⟩;have bW:=qP ho HB;obtain ⟨Ao,co,rfl,_,_⟩:=Kd.R_reads ho;clear ho;have HRb:=qP ho2 HB;obtain ⟨Ab,cb,rfl,_,_⟩:=Kd.R_reads ho2;clear ho2;have hb_:=hb;replace HB:=mB HB hb_;replace aU:=mX aU hb_;replace HXq:=mX HXq hb_;replace bZ:=mX bZ hb_;clear hb_;clear hb HP HC HL
 (try dsimp only)
 go_upto_region 3 with (((refine iy rfl rfl rfl rfl rfl HI73.out rfl (by simp [Value.oneCell']) ?_);intro jm jU dP))
 revert jm jU dP;intro w5 jU dP;have HXp:Aside0 (w5.heap[w4.heap.size]?=some (.cells #[.int .u8 a,.int .u8 t,.int .u8 17,.int .u16 i,.int .u8 fl,.int .u16 of_,.int .u32 s,.int .u32 d,.slice Ao o.length co,.slice Ab b.length cb] 73 (0,0))):=⟨jU⟩
 have GHXp:=FO HB;have cO:=blk_less aU;have hb_:=dP;replace HB:=mB HB hb_;replace aU:=mX aU hb_;replace HXq:=mX HXq hb_;replace bZ:=mX bZ hb_;replace bW:=mR bW hb_;replace HRb:=mR HRb hb_;clear hb_;clear jU dP;generalize w4.heap.size=gp at HXp GHXp cO|-
 have H:Ee k a t i fl of_ s d o b=some r:=HF.out;clear HF;unfold Ee at H
 obtain ⟨⟨us,ud,uc,ub,e2⟩,hp,H⟩:=dI H;dsimp only at H
 have HG:=Aside0.mk H;clear H;have he1:((0:Int)==0)=true:=rfl;have he2:((0:Int) !=0)=false:=rfl
 (try dsimp only)
 go_wp2_with (refine Kd.event_run rfl (rw_load rfl rfl HXp.out Try.underlying73 rfl HI73.out) ?_)
 clear he1 he2;refine (uK.AhJ a t i fl of_ s d Ao o.length co Ab cb b us ud uc e2 ub _ (Kd.R_reads' HRb.out).2.2 (Kd.R_reads' HRb.out).2.1 hp).mono ?_;rintro ev w6 ⟨vub,rfl,hub,hb⟩;clear hp;have kC:=qP hub HB;obtain ⟨Aub,cub,rfl,_,_⟩:=Kd.R_reads hub;clear hub;have hb_:=hb;replace HB:=mB HB hb_;replace aU:=mX aU hb_;replace HXq:=mX HXq hb_;replace bZ:=mX bZ hb_;replace bW:=mR bW hb_;replace HRb:=mR HRb hb_;replace HXp:=mX HXp hb_;clear hb_;clear hb;have H:=HG.out;clear HG
 by_cases ce:e2=0
 ·have KR:(e2==0)=true:=jf ce
  have UD:(e2 !=0)=false:=by rw [bne,KR];rfl
  rw [ah ce] at H
  clear ce;obtain ⟨rt,hr,H⟩:=dI H;have HG:=Aside0.mk H;clear H
  (try dsimp only)
  go_wp2_with (refine Kd.event_run rfl (rw_load rfl rfl HXp.out Try.underlying73 rfl HI73.out) ?_)
  refine (oh.calls k us ud uc Aub cub ub a t 17 i fl of_ s d Ao co o Ab cb b rt _ (Kd.R_reads' kC.out).2.2 (Kd.R_reads' kC.out).2.1 (Kd.R_reads' bW.out).2.2 (Kd.R_reads' bW.out).2.1 (Kd.R_reads' HRb.out).2.2 (Kd.R_reads' HRb.out).2.1 (by unfold oh.f;rw [hr];rfl)).mono ?_;rintro ev w7 ⟨rfl,hb⟩;clear hr;have hb_:=hb;replace HB:=mB HB hb_;replace aU:=mX aU hb_;replace HXq:=mX HXq hb_;replace bZ:=mX bZ hb_;replace bW:=mR bW hb_;replace HRb:=mR HRb hb_;replace HXp:=mX HXp hb_;replace kC:=mR kC hb_;clear hb_;clear hb;have H:=HG.out;clear HG
  cases rt with
  |false=>
   rw [aj (by decide)] at H
   obtain rfl:=eF H
   (try dsimp only)
   go_upto_region 9 with (fail)
   refine start_ (n:=6) (S:=fun w'=>w'.heap[gn]?=some (.cells #[.int .u8 0,.int .u32 0,.int .u16 0,.int .u32 0,.int .u16 0,.int .u8 0,.slice none 0 0] 76 (0,0))) (ds:=[]) #[false,false,false,false,false,false] (by kernel_rfl) rfl rfl bZ.out (fun hHeld=> ?_);refine with_tabW look.R9.tab look.R9.bits (fun HT_ HW_=> ?_);have hb_:=below_drew1 (Below.refl w7.heap.size w7);replace HB:=mB HB hb_;replace aU:=mX aU hb_;replace HXq:=mX HXq hb_;replace bZ:=mX bZ hb_;replace bW:=mR bW hb_;replace HRb:=mR HRb hb_;replace HXp:=mX HXp hb_;replace kC:=mR kC hb_;clear hb_;generalize w7.drew=w8 at HB aU HXq bZ bW HRb HXp kC hHeld|-
   refine pz 0 41 HT_ ?_;refine tv 1 42 (.agg #[.int .u8 0,.int .u32 0,.int .u16 0,.int .u32 0,.int .u16 0,.int .u8 0,.slice none 0 0]) HT_ HW_ hHeld ?_ ?_
   ·intro w' s0
    exact rw_load (p:= .tmp 6) (ty:=76) (by rfl) (by rfl) s0 hu76 (by rfl) HI76.out
   refine nz 42 ?_;refine oz 2 (none) HT_ (fun K hK=> ?_);refine cu (by rfl) (by rfl) rfl rfl rfl aU.out HI73.out rfl (by simp [Value.oneCell']) ?_;intro w9 hs_ off_;replace HXq:=oX off_ HXq aU (by decide);replace bZ:=oX off_ bZ aU (by decide);replace bW:=oR off_ bW aU (by decide);replace HRb:=oR off_ HRb aU (by decide);replace HXp:=oN off_ HXp (bC cO);replace kC:=oR off_ kC aU (by decide);replace HB:=oB off_ HB o6;clear off_;replace aU:=Aside0.mk hs_;clear hs_;refine hK.out _ _ bZ.out (fun hHeld=> ?_);clear hK K;refine pz 3 3 HT_ ?_;refine oz 4 (none) HT_ (fun K hK=> ?_);refine cu (by rfl) (by rfl) rfl rfl rfl HXq.out HI76.out rfl (by simp [Value.oneCell']) ?_;intro w10 hs_ off_;replace aU:=oX off_ aU HXq (by decide);replace bZ:=oN off_ bZ (bC iV)
   replace bW:=oR off_ bW HXq (by decide);replace HRb:=oR off_ HRb HXq (by decide);replace HXp:=oX off_ HXp HXq (by decide);replace kC:=oR off_ kC HXq (by decide);replace HB:=oB off_ HB GHXq;clear off_;replace HXq:=Aside0.mk hs_;clear hs_;refine hK.out _ _ bZ.out (fun hHeld=> ?_);clear hK K;refine pz 5 5 HT_ ?_;refine dz HT_ ?_;clear HT_ HW_ hHeld
   (try dsimp only)
   go_wp2
   (try simp only [Exit.inBlock,Exit.then])
   refine bodyPost_ret (jT rfl _ _ _ _ _ _ _ _ (0,0) (0,0) _ _ rfl aU.out hu73 rfl HI73.out rfl HXq.out hu76 rfl HI76.out) rfl ?_;exact ⟨_,_,_,_,rfl,Kd.bV _ _ _ _ _,Kd.bV _ _ _ _ _,rfl,Kd.bV _ _ _ _ _,HB.out⟩
  |true=>
   rw [ah rfl] at H
   have HG:=Aside0.mk H;clear H
   (try dsimp only)
   have uM:=cz HXp.out 2 rfl;have Ap:=cz HXp.out 6 rfl;have BG:=cz HXp.out 7 rfl
   go_upto_region 11 with (((refine iy rfl rfl rfl rfl rfl HI76.out rfl (by simp [Value.oneCell']) ?_);intro jm jU dP))
   clear uM Ap BG;revert jm jU dP;intro w8 jU dP;have HXf:Aside0 (w8.heap[w7.heap.size]?=some (.cells #[.int .u8 17,.int .u32 s,.int .u16 0,.int .u32 d,.int .u16 0,.int .u8 0,.slice none 0 0] 76 (0,0))):=⟨jU⟩
   have GHXf:=FO HB;have bP:=blk_less HXq;have mJ:=blk_less bZ;have hb_:=dP;replace HB:=mB HB hb_;replace aU:=mX aU hb_;replace HXq:=mX HXq hb_;replace bZ:=mX bZ hb_;replace bW:=mR bW hb_;replace HRb:=mR HRb hb_;replace HXp:=mX HXp hb_;replace kC:=mR kC hb_;clear hb_;clear jU dP;generalize w7.heap.size=gf at HXf GHXf bP mJ|-
   go_wp2_with fail
   refine (ru.calls us ud uc Aub cub ub 17 _ (Kd.R_reads' kC.out).2.2 (Kd.R_reads' kC.out).2.1 rfl).mono ?_;rintro ev w9 ⟨rfl,hb⟩;have hb_:=hb;replace HB:=mB HB hb_;replace aU:=mX aU hb_;replace HXq:=mX HXq hb_;replace bZ:=mX bZ hb_;replace bW:=mR bW hb_;replace HRb:=mR HRb hb_;replace HXp:=mX HXp hb_;replace kC:=mR kC hb_;replace HXf:=mX HXf hb_;clear hb_;clear hb
   (try dsimp only)
   go_upto_region 21 with (((refine iy rfl rfl rfl rfl rfl V8.out rfl (by simp [Value.oneCell']) ?_);intro jm jU dP))
   revert jm jU dP;intro w10 jU dP;have fG:Aside0 (w10.heap[w9.heap.size]?=some (.cells #[.int .u16 us,.int .u16 ud,.int .u16 uc,.slice Aub ub.length cub] 179 (0,0))):=⟨jU⟩
   have Bq:=FO HB;have hb_:=dP;replace HB:=mB HB hb_;replace aU:=mX aU hb_;replace HXq:=mX HXq hb_;replace bZ:=mX bZ hb_;replace bW:=mR bW hb_;replace HRb:=mR HRb hb_;replace HXp:=mX HXp hb_;replace kC:=mR kC hb_;replace HXf:=mX HXf hb_;clear hb_;clear jU dP;generalize w9.heap.size=gu at fG Bq|-
   refine start_ (n:=12) (S:=fun w'=>w'.cell? ⟨gu,0,none⟩=some (.int .u16 us) /\ w'.cell? ⟨gu,1,none⟩=some (.int .u16 ud)) (ds:=[]) #[false,false,false,false,false,false,false,false,false,false,false,false] (by kernel_rfl) rfl rfl ⟨((blk_cell fG.out 0).trans rfl),((blk_cell fG.out 1).trans rfl)⟩ (fun hHeld=> ?_);refine with_tabW look.R21.tab look.R21.bits (fun HT_ HW_=> ?_);have hb_:=below_drew1 (Below.refl w10.heap.size w10);replace HB:=mB HB hb_;replace aU:=mX aU hb_;replace HXq:=mX HXq hb_;replace bZ:=mX bZ hb_;replace bW:=mR bW hb_;replace HRb:=mR HRb hb_;replace HXp:=mX HXp hb_;replace kC:=mR kC hb_;replace HXf:=mX HXf hb_;replace fG:=mX fG hb_;clear hb_;generalize w10.drew=w11 at HB aU HXq bZ bW HRb HXp kC HXf fG hHeld|-
   refine pz 0 94 HT_ ?_;refine pz 1 95 HT_ ?_;refine pz 3 97 HT_ ?_;refine pz 4 98 HT_ ?_;refine tz 2 96 HT_ HW_ hHeld ?_;refine pz 6 100 HT_ ?_;refine pz 7 101 HT_ ?_;refine tz 5 99 HT_ HW_ hHeld ?_;refine oz 8 (none) HT_ (fun K hK=> ?_);refine kX (i:=2) (v:= .int .u16 us) (cs':= #[.int .u8 17,.int .u32 s,.int .u16 us,.int .u32 d,.int .u16 0,.int .u8 0,.slice none 0 0]) (by rfl) (by rfl) HXf.out rfl (by (have m_:=(blk_cell HXf.out 2).trans (rfl:_=some (.int .u16 0:Value)));(have mf_:=blk_frozen HXf.out 2);first|(go_simp;done)|(go_simp;rfl)) ?_;intro w12 hs_ off_;replace aU:=oX off_ aU HXf (by decide);replace HXq:=oN off_ HXq bP;replace bZ:=oN off_ bZ mJ;replace bW:=oR off_ bW HXf (by decide);replace HRb:=oR off_ HRb HXf (by decide);replace HXp:=oX off_ HXp HXf (by decide)
   replace kC:=oR off_ kC HXf (by decide);replace fG:=oX off_ fG HXf (by decide);replace HB:=oB off_ HB GHXf;clear off_;replace HXf:=Aside0.mk hs_;clear hs_;refine hK.out _ _ ⟨((blk_cell fG.out 0).trans rfl),((blk_cell fG.out 1).trans rfl)⟩ (fun hHeld=> ?_);clear hK K;refine pz 9 102 HT_ ?_;refine pz 10 103 HT_ ?_;refine oz 11 (none) HT_ (fun K hK=> ?_);refine kX (i:=4) (v:= .int .u16 ud) (cs':= #[.int .u8 17,.int .u32 s,.int .u16 us,.int .u32 d,.int .u16 ud,.int .u8 0,.slice none 0 0]) (by rfl) (by rfl) HXf.out rfl (by (have m_:=(blk_cell HXf.out 4).trans (rfl:_=some (.int .u16 0:Value)));(have mf_:=blk_frozen HXf.out 4);first|(go_simp;done)|(go_simp;rfl)) ?_;intro w13 hs_ off_;replace aU:=oX off_ aU HXf (by decide);replace HXq:=oN off_ HXq bP;replace bZ:=oN off_ bZ mJ
   replace bW:=oR off_ bW HXf (by decide);replace HRb:=oR off_ HRb HXf (by decide);replace HXp:=oX off_ HXp HXf (by decide);replace kC:=oR off_ kC HXf (by decide);replace fG:=oX off_ fG HXf (by decide);replace HB:=oB off_ HB GHXf;clear off_;replace HXf:=Aside0.mk hs_;clear hs_;refine hK.out _ _ ⟨((blk_cell fG.out 0).trans rfl),((blk_cell fG.out 1).trans rfl)⟩ (fun hHeld=> ?_);clear hK K;refine dz HT_ ?_;clear HT_ HW_ hHeld;have H:=HG.out;clear HG;obtain rfl:=eF H
   (try dsimp only)
   go_upto_region 25 with (fail)
   refine start_ (n:=7) (S:=fun w'=>w'.heap[gp]?=some (.cells #[.int .u8 a,.int .u8 t,.int .u8 17,.int .u16 i,.int .u8 fl,.int .u16 of_,.int .u32 s,.int .u32 d,.slice Ao o.length co,.slice Ab b.length cb] 73 (0,0)) /\ w'.heap[gf]?=some (.cells #[.int .u8 17,.int .u32 s,.int .u16 us,.int .u32 d,.int .u16 ud,.int .u8 0,.slice none 0 0] 76 (0,0))) (ds:=[]) #[false,false,false,false,false,false,false] (by kernel_rfl) rfl rfl ⟨HXp.out,HXf.out⟩ (fun hHeld=> ?_);refine with_tabW look.YF.tab look.YF.bits (fun HT_ HW_=> ?_);have hb_:=below_drew1 (Below.refl w13.heap.size w13);replace HB:=mB HB hb_;replace aU:=mX aU hb_;replace HXq:=mX HXq hb_;replace bZ:=mX bZ hb_;replace bW:=mR bW hb_;replace HRb:=mR HRb hb_;replace HXp:=mX HXp hb_;replace kC:=mR kC hb_;replace HXf:=mX HXf hb_;replace fG:=mX fG hb_;clear hb_
   generalize w13.drew=w14 at HB aU HXq bZ bW HRb HXp kC HXf fG hHeld|-
   refine pz 1 123 HT_ ?_;refine tv 0 122 (.agg #[.int .u8 a,.int .u8 t,.int .u8 17,.int .u16 i,.int .u8 fl,.int .u16 of_,.int .u32 s,.int .u32 d,.slice Ao o.length co,.slice Ab b.length cb]) HT_ HW_ hHeld ?_ ?_
   ·intro w' s0
    obtain ⟨s0,s1⟩:=s0;exact rw_load (p:= .tmp 7) (ty:=73) (by rfl) (by rfl) s0 hu73 (by rfl) HI73.out
   refine nz 122 ?_;refine tv 2 124 (.agg #[.int .u8 17,.int .u32 s,.int .u16 us,.int .u32 d,.int .u16 ud,.int .u8 0,.slice none 0 0]) HT_ HW_ hHeld ?_ ?_
   ·intro w' s0
    obtain ⟨s0,s1⟩:=s0;exact rw_load (p:= .tmp 10) (ty:=76) (by rfl) (by rfl) s1 hu76 (by rfl) HI76.out
   refine nz 124 ?_;refine oz 3 (none) HT_ (fun K hK=> ?_);refine cu (by rfl) (by rfl) rfl rfl rfl aU.out HI73.out rfl (by simp [Value.oneCell']) ?_;intro w15 hs_ off_;replace HXq:=oX off_ HXq aU (by decide);replace bZ:=oX off_ bZ aU (by decide);replace bW:=oR off_ bW aU (by decide);replace HRb:=oR off_ HRb aU (by decide);replace HXp:=oN off_ HXp (bC cO);replace kC:=oR off_ kC aU (by decide);replace HXf:=oX off_ HXf aU (by decide);replace fG:=oX off_ fG aU (by decide);replace HB:=oB off_ HB o6;clear off_;replace aU:=Aside0.mk hs_;clear hs_;refine hK.out _ _ ⟨HXp.out,HXf.out⟩ (fun hHeld=> ?_);clear hK K;refine pz 4 3 HT_ ?_;refine oz 5 (none) HT_ (fun K hK=> ?_);refine cu (by rfl) (by rfl) rfl rfl rfl HXq.out HI76.out rfl (by simp [Value.oneCell']) ?_;intro w16 hs_ off_
   replace aU:=oX off_ aU HXq (by decide);replace bZ:=oN off_ bZ (bC iV);replace bW:=oR off_ bW HXq (by decide);replace HRb:=oR off_ HRb HXq (by decide);replace HXp:=oX off_ HXp HXq (by decide);replace kC:=oR off_ kC HXq (by decide);replace HXf:=oN off_ HXf (bC bP);replace fG:=oX off_ fG HXq (by decide);replace HB:=oB off_ HB GHXq;clear off_;replace HXq:=Aside0.mk hs_;clear hs_;refine hK.out _ _ ⟨HXp.out,HXf.out⟩ (fun hHeld=> ?_);clear hK K;refine pz 6 5 HT_ ?_;refine dz HT_ ?_;clear HT_ HW_ hHeld
   (try dsimp only)
   go_wp2
   (try simp only [Exit.inBlock,Exit.then])
   refine bodyPost_ret (jT rfl _ _ _ _ _ _ _ _ (0,0) (0,0) _ _ rfl aU.out hu73 rfl HI73.out rfl HXq.out hu76 rfl HI76.out) rfl ?_;exact ⟨_,_,_,_,rfl,bW.out,HRb.out,⟨_,rfl,kC.out⟩,Kd.bV _ _ _ _ _,HB.out⟩
 ·have KR:(e2==0)=false:=iM ce
  have UD:(e2 !=0)=true:=bne_iff_ne.2 ce;rw [aj ce] at H
  clear ce;obtain rfl:=eF H
  (try dsimp only)
  go_upto_region 7 with (fail)
  refine start_ (n:=7) (S:=fun w'=>w'.heap[gn]?=some (.cells #[.int .u8 0,.int .u32 0,.int .u16 0,.int .u32 0,.int .u16 0,.int .u8 0,.slice none 0 0] 76 (0,0))) (ds:=[]) #[false,false,false,false,false,false,false] (by kernel_rfl) rfl rfl bZ.out (fun hHeld=> ?_);refine with_tabW look.R7.tab look.R7.bits (fun HT_ HW_=> ?_);have hb_:=below_drew1 (Below.refl w6.heap.size w6);replace HB:=mB HB hb_;replace aU:=mX aU hb_;replace HXq:=mX HXq hb_;replace bZ:=mX bZ hb_;replace bW:=mR bW hb_;replace HRb:=mR HRb hb_;replace HXp:=mX HXp hb_;replace kC:=mR kC hb_;clear hb_;generalize w6.drew=w7 at HB aU HXq bZ bW HRb HXp kC hHeld|-
  refine pz 0 34 HT_ ?_;refine pz 2 36 HT_ ?_;refine tv 1 35 (.agg #[.int .u8 0,.int .u32 0,.int .u16 0,.int .u32 0,.int .u16 0,.int .u8 0,.slice none 0 0]) HT_ HW_ hHeld ?_ ?_
  ·intro w' s0
   exact rw_load (p:= .tmp 6) (ty:=76) (by rfl) (by rfl) s0 hu76 (by rfl) HI76.out
  refine nz 35 ?_;refine oz 3 (none) HT_ (fun K hK=> ?_);refine cu (by rfl) (by rfl) rfl rfl rfl aU.out HI73.out rfl (by simp [Value.oneCell']) ?_;intro w8 hs_ off_;replace HXq:=oX off_ HXq aU (by decide);replace bZ:=oX off_ bZ aU (by decide);replace bW:=oR off_ bW aU (by decide);replace HRb:=oR off_ HRb aU (by decide);replace HXp:=oN off_ HXp (bC cO);replace kC:=oR off_ kC aU (by decide);replace HB:=oB off_ HB o6;clear off_;replace aU:=Aside0.mk hs_;clear hs_;refine hK.out _ _ bZ.out (fun hHeld=> ?_);clear hK K;refine pz 4 3 HT_ ?_;refine oz 5 (none) HT_ (fun K hK=> ?_);refine cu (by rfl) (by rfl) rfl rfl rfl HXq.out HI76.out rfl (by simp [Value.oneCell']) ?_;intro w9 hs_ off_;replace aU:=oX off_ aU HXq (by decide);replace bZ:=oN off_ bZ (bC iV)
  replace bW:=oR off_ bW HXq (by decide);replace HRb:=oR off_ HRb HXq (by decide);replace HXp:=oX off_ HXp HXq (by decide);replace kC:=oR off_ kC HXq (by decide);replace HB:=oB off_ HB GHXq;clear off_;replace HXq:=Aside0.mk hs_;clear hs_;refine hK.out _ _ bZ.out (fun hHeld=> ?_);clear hK K;refine pz 6 5 HT_ ?_;refine dz HT_ ?_;clear HT_ HW_ hHeld
  (try dsimp only)
  go_wp2
  (try simp only [Exit.inBlock,Exit.then])
  refine bodyPost_ret (jT rfl _ _ _ _ _ _ _ _ (0,0) (0,0) _ _ rfl aU.out hu73 rfl HI73.out rfl HXq.out hu76 rfl HI76.out) rfl ?_;exact ⟨_,_,_,_,rfl,Kd.bV _ _ _ _ _,Kd.bV _ _ _ _ _,rfl,Kd.bV _ _ _ _ _,HB.out⟩
attribute [local go_sem] xK
attribute [local go_sem] xM
attribute [local go_sem] xN
attribute [local go_sem] xO
attribute [local go_sem] xP
attribute [local go_sem] xQ
attribute [local go_sem] xR
attribute [local go_sem] xU
attribute [local go_sem] xW
attribute [local go_sem] xX
attribute [local go_sem] xY
attribute [local go_sem] xZ
theorem look.Ai7 (k:Nat) (A:Option Addr) (c:Nat) (l:List Int) (a t i fl of_ s d:Int) (o b:List Int) (r:LK) (w:World) (hC:Kd.C (Kd.int .u8) w A l.length l) (hL:l.length<=c) (hP:dL.f k l=some (a,t,6,i,fl,of_,s,d,o,b,0)) (h:Ef k a t i fl of_ s d o b=some r):
  Calls Try.prog 69 #[.slice A l.length c] w fun e w'=>r.Post w.heap.size w e w':=by
 have hu73:=Try.underlying73;have hu76:=Try.underlying76;have F7:=Try.underlying83;have Ag:=Try.underlying137;have uQ:=Try.underlying101;have QX:=Try.underlying179;have Rl:=Try.underlying181;have Rw:=Try.underlying183;have HB:=jy w;have HC:=Aside0.mk hC;have HL:=Aside0.mk hL;have HP:=Aside0.mk hP;have HF:=Aside0.mk h;have HI73:Aside0 ((Try.prog.info? 73).map (·.size)=some 10):=⟨by kernel_rfl⟩
 have HI76:Aside0 ((Try.prog.info? 76).map (·.size)=some 7):=⟨by kernel_rfl⟩
 have Ei:Aside0 ((Try.prog.info? 83).map (·.size)=some 4):=⟨by kernel_rfl⟩
 have qV:Aside0 ((Try.prog.info? 137).map (·.size)=some 10):=⟨by kernel_rfl⟩
 have ou:Aside0 ((Try.prog.info? 101).map (·.size)=some 5):=⟨by kernel_rfl⟩
 have V8:Aside0 ((Try.prog.info? 179).map (·.size)=some 4):=⟨by kernel_rfl⟩
 have V9:Aside0 ((Try.prog.info? 181).map (·.size)=some 10):=⟨by kernel_rfl⟩
 have AaE:Aside0 ((Try.prog.info? 183).map (·.size)=some 5):=⟨by kernel_rfl⟩
 clear hC hL hP h
 go_enter Try.func69,Try.ntmps69
 go_upto_region 2 with (first|((with_reducible refine gate_dst (N:=2) rfl ?_);refine box_event ?hg_ (N:=2) ?hd_ (cs:= #[.int .u8 0,.int .u8 0,.int .u8 0,.int .u16 0,.int .u8 0,.int .u16 0,.int .u32 0,.int .u32 0,.slice none 0 0,.slice none 0 0]) (t:=73) ?hr_ ?_;(case hd_=>rfl);(case hg_=>rfl);(case hr_=>first|(go_simp;done)|(go_simp;rfl));intro gi hgg_ w1 hbox_ hbb_;have o6:=Aside0.mk (show w.heap.size<=gi by rw [hgg_];exact below_size HB.out);have aU:=Aside0.mk hbox_;have hb_:=hbb_;replace HB:=mB HB hb_;clear hb_;clear hgg_ hbox_ hbb_)|((with_reducible refine gate_dst (N:=4) rfl ?_);refine box_event ?hg_ (N:=4) ?hd_ (cs:= #[.int .u8 0,.int .u32 0,.int .u16 0,.int .u32 0,.int .u16 0,.int .u8 0,.slice none 0 0]) (t:=76) ?hr_ ?_;(case hd_=>rfl);(case hg_=>rfl);(case hr_=>first|(go_simp;done)|(go_simp;rfl));intro gq hgg_ w2 hbox_ hbb_;have GHXq:=Aside0.mk (show w.heap.size<=gq by rw [hgg_];exact below_size HB.out);have HXq:=Aside0.mk hbox_;have hb_:=hbb_;replace HB:=mB HB hb_;replace aU:=mX aU hb_;clear hb_;clear hgg_ hbox_ hbb_)|((refine iy rfl rfl rfl rfl rfl HI76.out rfl (by simp [Value.oneCell']) ?_);intro jm jU dP))
 revert jm jU dP;intro w3 jU dP;have bZ:Aside0 (w3.heap[w2.heap.size]?=some (.cells #[.int .u8 0,.int .u32 0,.int .u16 0,.int .u32 0,.int .u16 0,.int .u8 0,.slice none 0 0] 76 (0,0))):=⟨jU⟩
 have IV:=FO HB;have iV:=blk_less HXq;have hb_:=dP;replace HB:=mB HB hb_;replace aU:=mX aU hb_;replace HXq:=mX HXq hb_;clear hb_;clear jU dP;generalize w2.heap.size=gn at bZ IV iV|-
 go_wp2_with fail
 refine (dL.calls k A c l a t 6 i fl of_ s d o b 0 _ (Kd.aJ HC.out HB.out) HL.out HP.out).mono ?_;rintro ev w4 ⟨vo,vb,rfl,ho,ho2,hb⟩;have bW:=qP ho HB;obtain ⟨Ao,co,rfl,_,_⟩:=Kd.R_reads ho;clear ho;have HRb:=qP ho2 HB;obtain ⟨Ab,cb,rfl,_,_⟩:=Kd.R_reads ho2;clear ho2;have hb_:=hb;replace HB:=mB HB hb_;replace aU:=mX aU hb_;replace HXq:=mX HXq hb_;replace bZ:=mX bZ hb_;clear hb_;clear hb HP HC HL
 (try dsimp only)
 go_upto_region 3 with (((refine iy rfl rfl rfl rfl rfl HI73.out rfl (by simp [Value.oneCell']) ?_);intro jm jU dP))
 revert jm jU dP;intro w5 jU dP;have HXp:Aside0 (w5.heap[w4.heap.size]?=some (.cells #[.int .u8 a,.int .u8 t,.int .u8 6,.int .u16 i,.int .u8 fl,.int .u16 of_,.int .u32 s,.int .u32 d,.slice Ao o.length co,.slice Ab b.length cb] 73 (0,0))):=⟨jU⟩
 have GHXp:=FO HB;have cO:=blk_less aU;have hb_:=dP;replace HB:=mB HB hb_;replace aU:=mX aU hb_;replace HXq:=mX HXq hb_;replace bZ:=mX bZ hb_;replace bW:=mR bW hb_;replace HRb:=mR HRb hb_;clear hb_;clear jU dP;generalize w4.heap.size=gp at HXp GHXp cO|-
 have H:Ef k a t i fl of_ s d o b=some r:=HF.out;clear HF;unfold Ef at H
 obtain ⟨⟨ts,td,tq,ta,tf,tw,tc,tu,FP,tb,e2⟩,hp,H⟩:=dI H;dsimp only at H
 have HG:=Aside0.mk H;clear H;have he1:((0:Int)==0)=true:=rfl;have he2:((0:Int) !=0)=false:=rfl
 (try dsimp only)
 go_wp2_with (refine Kd.event_run rfl (rw_load rfl rfl HXp.out Try.underlying73 rfl HI73.out) ?_)
 clear he1 he2;refine (uK.AhK a t i fl of_ s d Ao o.length co Ab cb b ts td tq ta tf tw tc tu e2 FP tb _ (Kd.R_reads' HRb.out).2.2 (Kd.R_reads' HRb.out).2.1 hp).mono ?_;rintro ev w6 ⟨Aur,vtb,rfl,UE,htb,hb⟩;clear hp;have gY:=qP UE HB;obtain ⟨XN,XO,rfl,_,_⟩:=Kd.R_reads UE;clear UE;have jV:=qP htb HB;obtain ⟨Atb,ctb,rfl,_,_⟩:=Kd.R_reads htb;clear htb;have hb_:=hb;replace HB:=mB HB hb_;replace aU:=mX aU hb_;replace HXq:=mX HXq hb_;replace bZ:=mX bZ hb_;replace bW:=mR bW hb_;replace HRb:=mR HRb hb_;replace HXp:=mX HXp hb_;clear hb_;clear hb;have H:=HG.out;clear HG
 by_cases ce:e2=0
 ·have KR:(e2==0)=true:=jf ce
  have UD:(e2 !=0)=false:=by rw [bne,KR];rfl
  rw [ah ce] at H
  clear ce;obtain ⟨rt,hr,H⟩:=dI H;have HG:=Aside0.mk H;clear H
  (try dsimp only)
  go_wp2_with (refine Kd.event_run rfl (rw_load rfl rfl HXp.out Try.underlying73 rfl HI73.out) ?_)
  refine (oW.calls k ts td tq ta tf tw tc tu XN XO FP Atb ctb tb a t 6 i fl of_ s d Ao co o Ab cb b rt _ (Kd.R_reads' gY.out).2.2 (Kd.R_reads' gY.out).2.1 (Kd.R_reads' jV.out).2.2 (Kd.R_reads' jV.out).2.1 (Kd.R_reads' bW.out).2.2 (Kd.R_reads' bW.out).2.1 (Kd.R_reads' HRb.out).2.2 (Kd.R_reads' HRb.out).2.1 (by unfold oW.f;rw [hr];rfl)).mono ?_;rintro ev w7 ⟨rfl,hb⟩;clear hr;have hb_:=hb;replace HB:=mB HB hb_;replace aU:=mX aU hb_;replace HXq:=mX HXq hb_;replace bZ:=mX bZ hb_;replace bW:=mR bW hb_;replace HRb:=mR HRb hb_;replace HXp:=mX HXp hb_;replace gY:=mR gY hb_;replace jV:=mR jV hb_;clear hb_;clear hb;have H:=HG.out;clear HG
  cases rt with
  |false=>
   rw [aj (by decide)] at H
   obtain rfl:=eF H
   (try dsimp only)
   go_upto_region 9 with (fail)
   refine start_ (n:=6) (S:=fun w'=>w'.heap[gn]?=some (.cells #[.int .u8 0,.int .u32 0,.int .u16 0,.int .u32 0,.int .u16 0,.int .u8 0,.slice none 0 0] 76 (0,0))) (ds:=[]) #[false,false,false,false,false,false] (by kernel_rfl) rfl rfl bZ.out (fun hHeld=> ?_);refine with_tabW look.R9.tab look.R9.bits (fun HT_ HW_=> ?_);have hb_:=below_drew1 (Below.refl w7.heap.size w7);replace HB:=mB HB hb_;replace aU:=mX aU hb_;replace HXq:=mX HXq hb_;replace bZ:=mX bZ hb_;replace bW:=mR bW hb_;replace HRb:=mR HRb hb_;replace HXp:=mX HXp hb_;replace gY:=mR gY hb_;replace jV:=mR jV hb_;clear hb_;generalize w7.drew=w8 at HB aU HXq bZ bW HRb HXp gY jV hHeld|-
   refine pz 0 41 HT_ ?_;refine tv 1 42 (.agg #[.int .u8 0,.int .u32 0,.int .u16 0,.int .u32 0,.int .u16 0,.int .u8 0,.slice none 0 0]) HT_ HW_ hHeld ?_ ?_
   ·intro w' s0
    exact rw_load (p:= .tmp 6) (ty:=76) (by rfl) (by rfl) s0 hu76 (by rfl) HI76.out
   refine nz 42 ?_;refine oz 2 (none) HT_ (fun K hK=> ?_);refine cu (by rfl) (by rfl) rfl rfl rfl aU.out HI73.out rfl (by simp [Value.oneCell']) ?_;intro w9 hs_ off_;replace HXq:=oX off_ HXq aU (by decide);replace bZ:=oX off_ bZ aU (by decide);replace bW:=oR off_ bW aU (by decide);replace HRb:=oR off_ HRb aU (by decide);replace HXp:=oN off_ HXp (bC cO);replace gY:=oR off_ gY aU (by decide);replace jV:=oR off_ jV aU (by decide);replace HB:=oB off_ HB o6;clear off_;replace aU:=Aside0.mk hs_;clear hs_;refine hK.out _ _ bZ.out (fun hHeld=> ?_);clear hK K;refine pz 3 3 HT_ ?_;refine oz 4 (none) HT_ (fun K hK=> ?_);refine cu (by rfl) (by rfl) rfl rfl rfl HXq.out HI76.out rfl (by simp [Value.oneCell']) ?_;intro w10 hs_ off_;replace aU:=oX off_ aU HXq (by decide)
   replace bZ:=oN off_ bZ (bC iV);replace bW:=oR off_ bW HXq (by decide);replace HRb:=oR off_ HRb HXq (by decide);replace HXp:=oX off_ HXp HXq (by decide);replace gY:=oR off_ gY HXq (by decide);replace jV:=oR off_ jV HXq (by decide);replace HB:=oB off_ HB GHXq;clear off_;replace HXq:=Aside0.mk hs_;clear hs_;refine hK.out _ _ bZ.out (fun hHeld=> ?_);clear hK K;refine pz 5 5 HT_ ?_;refine dz HT_ ?_;clear HT_ HW_ hHeld
   (try dsimp only)
   go_wp2
   (try simp only [Exit.inBlock,Exit.then])
   refine bodyPost_ret (jT rfl _ _ _ _ _ _ _ _ (0,0) (0,0) _ _ rfl aU.out hu73 rfl HI73.out rfl HXq.out hu76 rfl HI76.out) rfl ?_;exact ⟨_,_,_,_,rfl,Kd.bV _ _ _ _ _,Kd.bV _ _ _ _ _,rfl,Kd.bV _ _ _ _ _,HB.out⟩
  |true=>
   rw [ah rfl] at H
   have HG:=Aside0.mk H;clear H
   (try dsimp only)
   have uM:=cz HXp.out 2 rfl;have Ap:=cz HXp.out 6 rfl;have BG:=cz HXp.out 7 rfl
   go_upto_region 11 with (((refine iy rfl rfl rfl rfl rfl HI76.out rfl (by simp [Value.oneCell']) ?_);intro jm jU dP))
   clear uM Ap BG;revert jm jU dP;intro w8 jU dP;have HXf:Aside0 (w8.heap[w7.heap.size]?=some (.cells #[.int .u8 6,.int .u32 s,.int .u16 0,.int .u32 d,.int .u16 0,.int .u8 0,.slice none 0 0] 76 (0,0))):=⟨jU⟩
   have GHXf:=FO HB;have bP:=blk_less HXq;have mJ:=blk_less bZ;have hb_:=dP;replace HB:=mB HB hb_;replace aU:=mX aU hb_;replace HXq:=mX HXq hb_;replace bZ:=mX bZ hb_;replace bW:=mR bW hb_;replace HRb:=mR HRb hb_;replace HXp:=mX HXp hb_;replace gY:=mR gY hb_;replace jV:=mR jV hb_;clear hb_;clear jU dP;generalize w7.heap.size=gf at HXf GHXf bP mJ|-
   go_wp2_with fail
   refine (rP.calls ts td tq ta tf tw tc tu XN XO FP Atb ctb tb 6 _ (Kd.R_reads' gY.out).2.2 (Kd.R_reads' gY.out).2.1 (Kd.R_reads' jV.out).2.2 (Kd.R_reads' jV.out).2.1 rfl).mono ?_;rintro ev w9 ⟨rfl,hb⟩;have hb_:=hb;replace HB:=mB HB hb_;replace aU:=mX aU hb_;replace HXq:=mX HXq hb_;replace bZ:=mX bZ hb_;replace bW:=mR bW hb_;replace HRb:=mR HRb hb_;replace HXp:=mX HXp hb_;replace gY:=mR gY hb_;replace jV:=mR jV hb_;replace HXf:=mX HXf hb_;clear hb_;clear hb
   (try dsimp only)
   go_upto_region 24 with (((refine iy rfl rfl rfl rfl rfl V9.out rfl (by simp [Value.oneCell']) ?_);intro jm jU dP))
   revert jm jU dP;intro w10 jU dP;have fG:Aside0 (w10.heap[w9.heap.size]?=some (.cells #[.int .u16 ts,.int .u16 td,.int .u32 tq,.int .u32 ta,.int .u8 tf,.int .u16 tw,.int .u16 tc,.int .u16 tu,.slice XN FP.length XO,.slice Atb tb.length ctb] 181 (0,0))):=⟨jU⟩
   have Bq:=FO HB;have hb_:=dP;replace HB:=mB HB hb_;replace aU:=mX aU hb_;replace HXq:=mX HXq hb_;replace bZ:=mX bZ hb_;replace bW:=mR bW hb_;replace HRb:=mR HRb hb_;replace HXp:=mX HXp hb_;replace gY:=mR gY hb_;replace jV:=mR jV hb_;replace HXf:=mX HXf hb_;clear hb_;clear jU dP;generalize w9.heap.size=gu at fG Bq|-
   refine start_ (n:=17) (S:=fun w'=>w'.cell? ⟨gu,0,none⟩=some (.int .u16 ts) /\ w'.cell? ⟨gu,1,none⟩=some (.int .u16 td) /\ w'.cell? ⟨gu,4,none⟩=some (.int .u8 tf)) (ds:=[]) #[false,false,false,false,false,false,false,false,false,false,false,false,false,false,false,false,false] (by kernel_rfl) rfl rfl ⟨((blk_cell fG.out 0).trans rfl),((blk_cell fG.out 1).trans rfl),((blk_cell fG.out 4).trans rfl)⟩ (fun hHeld=> ?_);refine with_tabW look.R24.tab look.R24.bits (fun HT_ HW_=> ?_);have hb_:=below_drew1 (Below.refl w10.heap.size w10);replace HB:=mB HB hb_;replace aU:=mX aU hb_;replace HXq:=mX HXq hb_;replace bZ:=mX bZ hb_;replace bW:=mR bW hb_;replace HRb:=mR HRb hb_;replace HXp:=mX HXp hb_;replace gY:=mR gY hb_;replace jV:=mR jV hb_;replace HXf:=mX HXf hb_;replace fG:=mX fG hb_;clear hb_
   generalize w10.drew=w11 at HB aU HXq bZ bW HRb HXp gY jV HXf fG hHeld|-
   refine pz 0 108 HT_ ?_;refine pz 1 109 HT_ ?_;refine pz 3 111 HT_ ?_;refine pz 4 112 HT_ ?_;refine pz 6 114 HT_ ?_;refine pz 7 115 HT_ ?_;refine tz 2 110 HT_ HW_ hHeld ?_;refine pz 9 117 HT_ ?_;refine pz 10 118 HT_ ?_;refine tz 5 113 HT_ HW_ hHeld ?_;refine tz 8 116 HT_ HW_ hHeld ?_;refine oz 11 (none) HT_ (fun K hK=> ?_);refine kX (i:=2) (v:= .int .u16 ts) (cs':= #[.int .u8 6,.int .u32 s,.int .u16 ts,.int .u32 d,.int .u16 0,.int .u8 0,.slice none 0 0]) (by rfl) (by rfl) HXf.out rfl (by (have m_:=(blk_cell HXf.out 2).trans (rfl:_=some (.int .u16 0:Value)));(have mf_:=blk_frozen HXf.out 2);first|(go_simp;done)|(go_simp;rfl)) ?_;intro w12 hs_ off_;replace aU:=oX off_ aU HXf (by decide);replace HXq:=oN off_ HXq bP;replace bZ:=oN off_ bZ mJ;replace bW:=oR off_ bW HXf (by decide)
   replace HRb:=oR off_ HRb HXf (by decide);replace HXp:=oX off_ HXp HXf (by decide);replace gY:=oR off_ gY HXf (by decide);replace jV:=oR off_ jV HXf (by decide);replace fG:=oX off_ fG HXf (by decide);replace HB:=oB off_ HB GHXf;clear off_;replace HXf:=Aside0.mk hs_;clear hs_;refine hK.out _ _ ⟨((blk_cell fG.out 0).trans rfl),((blk_cell fG.out 1).trans rfl),((blk_cell fG.out 4).trans rfl)⟩ (fun hHeld=> ?_);clear hK K;refine pz 12 119 HT_ ?_;refine pz 13 120 HT_ ?_;refine oz 14 (none) HT_ (fun K hK=> ?_)
   refine kX (i:=4) (v:= .int .u16 td) (cs':= #[.int .u8 6,.int .u32 s,.int .u16 ts,.int .u32 d,.int .u16 td,.int .u8 0,.slice none 0 0]) (by rfl) (by rfl) HXf.out rfl (by (have m_:=(blk_cell HXf.out 4).trans (rfl:_=some (.int .u16 0:Value)));(have mf_:=blk_frozen HXf.out 4);first|(go_simp;done)|(go_simp;rfl)) ?_;intro w13 hs_ off_;replace aU:=oX off_ aU HXf (by decide);replace HXq:=oN off_ HXq bP;replace bZ:=oN off_ bZ mJ;replace bW:=oR off_ bW HXf (by decide);replace HRb:=oR off_ HRb HXf (by decide);replace HXp:=oX off_ HXp HXf (by decide);replace gY:=oR off_ gY HXf (by decide);replace jV:=oR off_ jV HXf (by decide);replace fG:=oX off_ fG HXf (by decide);replace HB:=oB off_ HB GHXf;clear off_;replace HXf:=Aside0.mk hs_;clear hs_
   refine hK.out _ _ ⟨((blk_cell fG.out 0).trans rfl),((blk_cell fG.out 1).trans rfl),((blk_cell fG.out 4).trans rfl)⟩ (fun hHeld=> ?_);clear hK K;refine pz 15 121 HT_ ?_;refine oz 16 (none) HT_ (fun K hK=> ?_);refine kX (i:=5) (v:= .int .u8 tf) (cs':= #[.int .u8 6,.int .u32 s,.int .u16 ts,.int .u32 d,.int .u16 td,.int .u8 tf,.slice none 0 0]) (by rfl) (by rfl) HXf.out rfl (by (have m_:=(blk_cell HXf.out 5).trans (rfl:_=some (.int .u8 0:Value)));(have mf_:=blk_frozen HXf.out 5);first|(go_simp;done)|(go_simp;rfl)) ?_;intro w14 hs_ off_;replace aU:=oX off_ aU HXf (by decide);replace HXq:=oN off_ HXq bP;replace bZ:=oN off_ bZ mJ;replace bW:=oR off_ bW HXf (by decide);replace HRb:=oR off_ HRb HXf (by decide);replace HXp:=oX off_ HXp HXf (by decide);replace gY:=oR off_ gY HXf (by decide)
   replace jV:=oR off_ jV HXf (by decide);replace fG:=oX off_ fG HXf (by decide);replace HB:=oB off_ HB GHXf;clear off_;replace HXf:=Aside0.mk hs_;clear hs_;refine hK.out _ _ ⟨((blk_cell fG.out 0).trans rfl),((blk_cell fG.out 1).trans rfl),((blk_cell fG.out 4).trans rfl)⟩ (fun hHeld=> ?_);clear hK K;refine dz HT_ ?_;clear HT_ HW_ hHeld;have H:=HG.out;clear HG;obtain rfl:=eF H
   (try dsimp only)
   go_upto_region 25 with (fail)
   refine start_ (n:=7) (S:=fun w'=>w'.heap[gp]?=some (.cells #[.int .u8 a,.int .u8 t,.int .u8 6,.int .u16 i,.int .u8 fl,.int .u16 of_,.int .u32 s,.int .u32 d,.slice Ao o.length co,.slice Ab b.length cb] 73 (0,0)) /\ w'.heap[gf]?=some (.cells #[.int .u8 6,.int .u32 s,.int .u16 ts,.int .u32 d,.int .u16 td,.int .u8 tf,.slice none 0 0] 76 (0,0))) (ds:=[]) #[false,false,false,false,false,false,false] (by kernel_rfl) rfl rfl ⟨HXp.out,HXf.out⟩ (fun hHeld=> ?_);refine with_tabW look.YF.tab look.YF.bits (fun HT_ HW_=> ?_);have hb_:=below_drew1 (Below.refl w14.heap.size w14);replace HB:=mB HB hb_;replace aU:=mX aU hb_;replace HXq:=mX HXq hb_;replace bZ:=mX bZ hb_;replace bW:=mR bW hb_;replace HRb:=mR HRb hb_;replace HXp:=mX HXp hb_;replace gY:=mR gY hb_;replace jV:=mR jV hb_;replace HXf:=mX HXf hb_
   replace fG:=mX fG hb_;clear hb_;generalize w14.drew=w15 at HB aU HXq bZ bW HRb HXp gY jV HXf fG hHeld|-
   refine pz 1 123 HT_ ?_;refine tv 0 122 (.agg #[.int .u8 a,.int .u8 t,.int .u8 6,.int .u16 i,.int .u8 fl,.int .u16 of_,.int .u32 s,.int .u32 d,.slice Ao o.length co,.slice Ab b.length cb]) HT_ HW_ hHeld ?_ ?_
   ·intro w' s0
    obtain ⟨s0,s1⟩:=s0;exact rw_load (p:= .tmp 7) (ty:=73) (by rfl) (by rfl) s0 hu73 (by rfl) HI73.out
   refine nz 122 ?_;refine tv 2 124 (.agg #[.int .u8 6,.int .u32 s,.int .u16 ts,.int .u32 d,.int .u16 td,.int .u8 tf,.slice none 0 0]) HT_ HW_ hHeld ?_ ?_
   ·intro w' s0
    obtain ⟨s0,s1⟩:=s0;exact rw_load (p:= .tmp 10) (ty:=76) (by rfl) (by rfl) s1 hu76 (by rfl) HI76.out
   refine nz 124 ?_;refine oz 3 (none) HT_ (fun K hK=> ?_);refine cu (by rfl) (by rfl) rfl rfl rfl aU.out HI73.out rfl (by simp [Value.oneCell']) ?_;intro w16 hs_ off_;replace HXq:=oX off_ HXq aU (by decide);replace bZ:=oX off_ bZ aU (by decide);replace bW:=oR off_ bW aU (by decide);replace HRb:=oR off_ HRb aU (by decide);replace HXp:=oN off_ HXp (bC cO);replace gY:=oR off_ gY aU (by decide);replace jV:=oR off_ jV aU (by decide);replace HXf:=oX off_ HXf aU (by decide);replace fG:=oX off_ fG aU (by decide);replace HB:=oB off_ HB o6;clear off_;replace aU:=Aside0.mk hs_;clear hs_;refine hK.out _ _ ⟨HXp.out,HXf.out⟩ (fun hHeld=> ?_);clear hK K;refine pz 4 3 HT_ ?_;refine oz 5 (none) HT_ (fun K hK=> ?_);refine cu (by rfl) (by rfl) rfl rfl rfl HXq.out HI76.out rfl (by simp [Value.oneCell']) ?_
   intro w17 hs_ off_;replace aU:=oX off_ aU HXq (by decide);replace bZ:=oN off_ bZ (bC iV);replace bW:=oR off_ bW HXq (by decide);replace HRb:=oR off_ HRb HXq (by decide);replace HXp:=oX off_ HXp HXq (by decide);replace gY:=oR off_ gY HXq (by decide);replace jV:=oR off_ jV HXq (by decide);replace HXf:=oN off_ HXf (bC bP);replace fG:=oX off_ fG HXq (by decide);replace HB:=oB off_ HB GHXq;clear off_;replace HXq:=Aside0.mk hs_;clear hs_;refine hK.out _ _ ⟨HXp.out,HXf.out⟩ (fun hHeld=> ?_);clear hK K;refine pz 6 5 HT_ ?_;refine dz HT_ ?_;clear HT_ HW_ hHeld
   (try dsimp only)
   go_wp2
   (try simp only [Exit.inBlock,Exit.then])
   refine bodyPost_ret (jT rfl _ _ _ _ _ _ _ _ (0,0) (0,0) _ _ rfl aU.out hu73 rfl HI73.out rfl HXq.out hu76 rfl HI76.out) rfl ?_;exact ⟨_,_,_,_,rfl,bW.out,HRb.out,⟨_,_,rfl,gY.out,jV.out⟩,Kd.bV _ _ _ _ _,HB.out⟩
 ·have KR:(e2==0)=false:=iM ce
  have UD:(e2 !=0)=true:=bne_iff_ne.2 ce;rw [aj ce] at H
  clear ce;obtain rfl:=eF H
  (try dsimp only)
  go_upto_region 7 with (fail)
  refine start_ (n:=7) (S:=fun w'=>w'.heap[gn]?=some (.cells #[.int .u8 0,.int .u32 0,.int .u16 0,.int .u32 0,.int .u16 0,.int .u8 0,.slice none 0 0] 76 (0,0))) (ds:=[]) #[false,false,false,false,false,false,false] (by kernel_rfl) rfl rfl bZ.out (fun hHeld=> ?_);refine with_tabW look.R7.tab look.R7.bits (fun HT_ HW_=> ?_);have hb_:=below_drew1 (Below.refl w6.heap.size w6);replace HB:=mB HB hb_;replace aU:=mX aU hb_;replace HXq:=mX HXq hb_;replace bZ:=mX bZ hb_;replace bW:=mR bW hb_;replace HRb:=mR HRb hb_;replace HXp:=mX HXp hb_;replace gY:=mR gY hb_;replace jV:=mR jV hb_;clear hb_;generalize w6.drew=w7 at HB aU HXq bZ bW HRb HXp gY jV hHeld|-
  refine pz 0 34 HT_ ?_;refine pz 2 36 HT_ ?_;refine tv 1 35 (.agg #[.int .u8 0,.int .u32 0,.int .u16 0,.int .u32 0,.int .u16 0,.int .u8 0,.slice none 0 0]) HT_ HW_ hHeld ?_ ?_
  ·intro w' s0
   exact rw_load (p:= .tmp 6) (ty:=76) (by rfl) (by rfl) s0 hu76 (by rfl) HI76.out
  refine nz 35 ?_;refine oz 3 (none) HT_ (fun K hK=> ?_);refine cu (by rfl) (by rfl) rfl rfl rfl aU.out HI73.out rfl (by simp [Value.oneCell']) ?_;intro w8 hs_ off_;replace HXq:=oX off_ HXq aU (by decide);replace bZ:=oX off_ bZ aU (by decide);replace bW:=oR off_ bW aU (by decide);replace HRb:=oR off_ HRb aU (by decide);replace HXp:=oN off_ HXp (bC cO);replace gY:=oR off_ gY aU (by decide);replace jV:=oR off_ jV aU (by decide);replace HB:=oB off_ HB o6;clear off_;replace aU:=Aside0.mk hs_;clear hs_;refine hK.out _ _ bZ.out (fun hHeld=> ?_);clear hK K;refine pz 4 3 HT_ ?_;refine oz 5 (none) HT_ (fun K hK=> ?_);refine cu (by rfl) (by rfl) rfl rfl rfl HXq.out HI76.out rfl (by simp [Value.oneCell']) ?_;intro w9 hs_ off_;replace aU:=oX off_ aU HXq (by decide)
  replace bZ:=oN off_ bZ (bC iV);replace bW:=oR off_ bW HXq (by decide);replace HRb:=oR off_ HRb HXq (by decide);replace HXp:=oX off_ HXp HXq (by decide);replace gY:=oR off_ gY HXq (by decide);replace jV:=oR off_ jV HXq (by decide);replace HB:=oB off_ HB GHXq;clear off_;replace HXq:=Aside0.mk hs_;clear hs_;refine hK.out _ _ bZ.out (fun hHeld=> ?_);clear hK K;refine pz 6 5 HT_ ?_;refine dz HT_ ?_;clear HT_ HW_ hHeld
  (try dsimp only)
  go_wp2
  (try simp only [Exit.inBlock,Exit.then])
  refine bodyPost_ret (jT rfl _ _ _ _ _ _ _ _ (0,0) (0,0) _ _ rfl aU.out hu73 rfl HI73.out rfl HXq.out hu76 rfl HI76.out) rfl ?_;exact ⟨_,_,_,_,rfl,Kd.bV _ _ _ _ _,Kd.bV _ _ _ _ _,rfl,Kd.bV _ _ _ _ _,HB.out⟩
attribute [local go_sem] xK
attribute [local go_sem] xM
attribute [local go_sem] xN
attribute [local go_sem] xO
attribute [local go_sem] xP
attribute [local go_sem] xQ
attribute [local go_sem] xR
attribute [local go_sem] xU
attribute [local go_sem] xW
attribute [local go_sem] xX
attribute [local go_sem] xY
attribute [local go_sem] xZ
theorem ry.calls (k:Nat) (A:Option Addr) (c:Nat) (l:List Int) (r:LK) (w:World) (hC:Kd.C (Kd.int .u8) w A l.length l) (hL:l.length<=c) (h:ry.f k l=some r):
  Calls Try.prog 69 #[.slice A l.length c] w fun e w'=>r.Post w.heap.size w e w':=by
 unfold ry.f at h
 obtain ⟨⟨a,t,pr,i,fl,of_,s,d,o,b,e_⟩,hp,h⟩:=dI h;dsimp only at h
 by_cases he:e_=0
 ·rw [ah he] at h
  subst he
  by_cases h17:pr=17
  ·rw [ah h17] at h
   subst h17;exact look.Ai6 k A c l a t i fl of_ s d o b r w hC hL hp h
  ·rw [aj h17] at h
   by_cases h6:pr=6
   ·rw [ah h6] at h
    subst h6;exact look.Ai7 k A c l a t i fl of_ s d o b r w hC hL hp h
   ·rw [aj h6] at h
    by_cases h1:pr=1
    ·rw [ah h1] at h
     subst h1;exact look.lk_icmp k A c l a t i fl of_ s d o b r w hC hL hp h
    ·rw [aj h1] at h
     obtain rfl:=eF h;exact look.AaG k A c l a t pr i fl of_ s d o b w hC hL hp h17 h6 h1
 ·rw [aj he] at h
  obtain rfl:=eF h;exact look.AaF k A c l a t pr i fl of_ s d o b e_ w hC hL hp he
attribute [local go_sem] xK
attribute [local go_sem] xM
attribute [local go_sem] xN
attribute [local go_sem] xO
attribute [local go_sem] xP
attribute [local go_sem] xQ
attribute [local go_sem] xR
attribute [local go_sem] xU
attribute [local go_sem] xW
attribute [local go_sem] xX
attribute [local go_sem] xY
attribute [local go_sem] xZ
theorem rewrite_Look.calls (k:Nat) (A:Option Addr) (c:Nat) (l:List Int) (r:LK) (w:World) (hC:Kd.C (Kd.int .u8) w A l.length l) (hL:l.length<=c) (h:ry.f k l=some r):
  Calls Try.prog 36 #[.slice A l.length c] w fun e w'=>r.Told w.heap.size w e w':=
 rewrite_Look.via A c l r w hC hL (fun w2 h2=>ry.calls k A c l r w2 h2 hL h)
attribute [local go_sem] dV dW gI gJ dG dH dX dY
mutual
def ig.j0:Nat ->Int ->Bool ->Int ->Int ->Int ->Int ->Int ->Int ->Int ->Int ->List Int ->List Int ->Option (List Int×Int)
 |0,_,_,_,_,_,_,_,_,_,_,_,_=>none
 |k+1,x4,x15,Jw,Jy,Jz,Gx,Gy,Gz,JA,JB,GG,zK=>if x15=true then (some (([]:List Int),21)) else (if (zK.length:Int)>(wrap64 (65535 - x4)) then (some (([]:List Int),23)) else ((some (([JA,JB]:List Int):List Int)).bind fun qU=>(ig.l0 k (([Go.bits .or .u8 64 ((wrap64 (Int.tdiv x4 4)) % 256),Jw,((wrap64 (x4+(zK.length:Int))) / 256) % 256,(wrap64 (x4+(zK.length:Int))) % 256,(Gx / 256) % 256,(Gx) % 256,((Go.bits .or .u16 (IntKind.u16.wrap ((IntKind.u16.wrap (Gy))*8192)) Gz) / 256) % 256,(Go.bits .or .u16 (IntKind.u16.wrap ((IntKind.u16.wrap (Gy))*8192)) Gz) % 256,Jy,Jz,0,0]:List Int)) qU (qU.length:Int) 0 Jw Jy Jz Gx Gy Gz JA JB GG zK)))
def ig.l0:Nat ->List Int ->List Int ->Int ->Int ->Int ->Int ->Int ->Int ->Int ->Int ->Int ->Int ->List Int ->List Int ->Option (List Int×Int)
 |0,_,_,_,_,_,_,_,_,_,_,_,_,_,_=>none
 |k+1,x7,x88,x89,x90,Jw,Jy,Jz,Gx,Gy,Gz,JA,JB,GG,zK=>if x90<x89 then (if 0<=x90 then (if x90<(x88.length:Int) then ((some (([((rd x88 x90) / 16777216) % 256,((rd x88 x90) / 65536) % 256,((rd x88 x90) / 256) % 256,(rd x88 x90) % 256]:List Int):List Int)).bind fun y160=>(if x7.length+y160.length<140737488355328 then (ig.l0 k (x7++y160) x88 x89 (wrap64 (x90+1)) Jw Jy Jz Gx Gy Gz JA JB GG zK) else (none))) else (none)) else (none)) else (if x7.length+GG.length<140737488355328 then ((some (x7++GG:List Int)).bind fun vX=>((uy.f k vX).bind fun Dv=>(if 10<(vX.length:Int) then (if 11<(vX.length:Int) then ((some ((vX.set (10:Int).toNat ((Dv / 256) % 256)).set (11:Int).toNat ((Dv) % 256):List Int)).bind fun Fp=>(if Fp.length+zK.length<140737488355328 then (some ((Fp++zK),0)) else (none))) else (none)) else (none)))) else (none))
end
def ig.f (k:Nat) (aI:Int) (aV:Int) (aX:Int) (bn:Int) (eP:Int) (eX:Int) (fC:Int) (fD:Int) (bD:List Int) (dw:List Int):Option (List Int×Int):=if ((bD.length:Int) % 4)=0 then (if (bD.length:Int)>40 then (ig.j0 k (wrap64 (20+(bD.length:Int))) true aI aV aX bn eP eX fC fD bD dw) else (if eP>7 then (ig.j0 k (wrap64 (20+(bD.length:Int))) true aI aV aX bn eP eX fC fD bD dw) else (ig.j0 k (wrap64 (20+(bD.length:Int))) (decide (eX>8191)) aI aV aX bn eP eX fC fD bD dw))) else (ig.j0 k (wrap64 (20+(bD.length:Int))) true aI aV aX bn eP eX fC fD bD dw)
theorem ig.calls (k:Nat) (aI:Int) (aV:Int) (aX:Int) (bn:Int) (eP:Int) (eX:Int) (fC:Int) (fD:Int) (lX:Option Addr) (lY:Nat) (bD:List Int) (lZ:Option Addr) (l7:Nat) (dw:List Int) (r1:List Int) (r2:Int) (w:World) (zD:Kd.C (Kd.int .u8) w lX bD.length bD) (zF:bD.length<=lY) (zG:Kd.C (Kd.int .u8) w lZ dw.length dw) (zH:dw.length<=l7) (h:ig.f k aI aV aX bn eP eX fC fD bD dw=some (r1,r2)):
  Calls Try.prog 71 #[.agg #[.int .u8 aI,.int .u8 aV,.int .u8 aX,.int .u16 bn,.int .u8 eP,.int .u16 eX,.int .u32 fC,.int .u32 fD,.slice lX bD.length lY,.slice lZ dw.length l7]] w fun e w'=>∃ uP:Value,e= .returned (.tuple #[uP,.int .i64 r2]) /\ Kd.R (Kd.int .u8) 5 w' w.heap.size (fun _=>True) uP r1 /\ Below w.heap.size w w':=by
 have hu73:=Try.underlying73;have IA:=Aside0.mk zD;have Rn:=Aside0.mk zF;clear zD zF;have IB:=Aside0.mk zG;have Ro:=Aside0.mk zH;clear zG zH;have HB:=jy w;have H:(if ((bD.length:Int) % 4)=0 then (if (bD.length:Int)>40 then (ig.j0 k (wrap64 (20+(bD.length:Int))) true aI aV aX bn eP eX fC fD bD dw) else (if eP>7 then (ig.j0 k (wrap64 (20+(bD.length:Int))) true aI aV aX bn eP eX fC fD bD dw) else (ig.j0 k (wrap64 (20+(bD.length:Int))) (decide (eX>8191)) aI aV aX bn eP eX fC fD bD dw))) else (ig.j0 k (wrap64 (20+(bD.length:Int))) true aI aV aX bn eP eX fC fD bD dw))=some (r1,r2):=h;clear h;have HC2:=Aside0.mk H;clear H
 go_enter Try.func71,Try.ntmps71
 go_upto_region 2 with (first|((with_reducible refine gate_dst (N:=1) rfl ?_);(try (refine eH (by rfl) ?_;dsimp only));refine box_event ?hg (N:=1) ?hd (cs:= #[.int .u8 aI,.int .u8 aV,.int .u8 aX,.int .u16 bn,.int .u8 eP,.int .u16 eX,.int .u32 fC,.int .u32 fD,.slice lX bD.length lY,.slice lZ dw.length l7]) (t:=73) ?hr ?_;(case hd=>rfl);(case hg=>rfl);(case hr=>first|(go_simp;done)|(go_simp;rfl));intro nR hg w3 hbox hb;have ay:=Aside0.mk (ag (bz HB) hb);have aC:=Aside0.mk (hbox);have bg:=Aside0.mk ((by rw [hg];exact (below_size (bz HB)):w.heap.size<=nR));have dm:=Aside0.mk ((by rw [hg];exact (below_size (bz HB)):w.heap.size<=nR));clear HB;have HB:=ay;have cZ:=aC;have Axr:=bg;have Axs:=dm;clear ay aC bg dm;clear hb hbox hg;have vK:w3.cell? ⟨nR,0,none⟩=some (.int .u8 aI):=cz cZ.out 0 rfl;have vM:w3.cell? ⟨nR,1,none⟩=some (.int .u8 aV):=cz cZ.out 1 rfl;have vN:w3.cell? ⟨nR,2,none⟩=some (.int .u8 aX):=cz cZ.out 2 rfl;have vO:w3.cell? ⟨nR,3,none⟩=some (.int .u16 bn):=cz cZ.out 3 rfl;have zU:w3.cell? ⟨nR,4,none⟩=some (.int .u8 eP):=cz cZ.out 4 rfl;have O4:w3.cell? ⟨nR,5,none⟩=some (.int .u16 eX):=cz cZ.out 5 rfl;have O5:w3.cell? ⟨nR,6,none⟩=some (.int .u32 fC):=cz cZ.out 6 rfl;have O6:w3.cell? ⟨nR,7,none⟩=some (.int .u32 fD):=cz cZ.out 7 rfl;have O7:w3.cell? ⟨nR,8,none⟩=some (.slice lX bD.length lY):=cz cZ.out 8 rfl;have Pg:w3.cell? ⟨nR,9,none⟩=some (.slice lZ dw.length l7):=cz cZ.out 9 rfl;have vP:=blk_frozen cZ.out 0;have vS:=blk_frozen cZ.out 1;have vT:=blk_frozen cZ.out 2;have vU:=blk_frozen cZ.out 3;have zV:=blk_frozen cZ.out 4;have Ph:=blk_frozen cZ.out 5;have Pj:=blk_frozen cZ.out 6;have Pm:=blk_frozen cZ.out 7;have Pn:=blk_frozen cZ.out 8;have Po:=blk_frozen cZ.out 9))
 (try simp only [Act.put,List.setIfInBounds_toArray,List.set_cons_zero,List.set_cons_succ])
 go_cut [15] (fun v15 wc=>∃ (kq:Nat) (We:Bool),v15= .bool We /\ Aside0 (ig.j0 kq (wrap64 (20+(bD.length:Int))) We aI aV aX bn eP eX fC fD bD dw=some (r1,r2)) /\ Aside0 (kq<=k) /\ Aside0 (wc.heap[nR]?=some (.cells #[.int .u8 aI,.int .u8 aV,.int .u8 aX,.int .u16 bn,.int .u8 eP,.int .u16 eX,.int .u32 fC,.int .u32 fD,(.slice lX bD.length lY),(.slice lZ dw.length l7)] 73 (0,0))) /\ Aside0 (Below w.heap.size w wc))
 case first=>
  have H:=HC2.out;clear HC2
  by_cases c5:((bD.length:Int) % 4)=0
  ·rw [ah c5] at H
   have qR:(((bD.length:Int) % 4)==0)=true:=jf c5;have wO:(((bD.length:Int) % 4) !=0)=false:=oM c5;clear c5
   (first|rw [qR]|(simp only [i64_w,i32_w];rw [qR])|skip)
   by_cases c6:(bD.length:Int)>40
   ·rw [ah c6] at H
    have yY:decide (40<(bD.length:Int))=true:=bJ c6;have Xp:decide (40<bD.length)=true:=bJ (by omega);clear c6;have H':=Aside0.mk H;clear H;have Aqw:=xC cZ.out;have Aqx:=blk_frozen cZ.out
    go_wp2
    repeat (go_quiet (fail);try go_wp2)
    go_meet
    case rel=>exact ⟨_,(true),(by first|rfl|(simp;done)|(simp [*];done)),H',⟨by first|omega|exact Nat.le_refl _⟩,⟨kz cZ⟩,⟨bz HB⟩⟩
   ·rw [aj c6] at H
    have yY:decide (40<(bD.length:Int))=false:=jC c6;have Xp:decide (40<bD.length)=false:=jC (by omega);clear c6
    by_cases c8:eP>7
    ·rw [ah c8] at H
     have uf:decide (7<eP)=true:=bJ c8;clear c8;have H':=Aside0.mk H;clear H;have Wh:=xC cZ.out;have Wi:=blk_frozen cZ.out
     go_wp2
     repeat (go_quiet (fail);try go_wp2)
     go_meet
     case rel=>exact ⟨_,(true),(by first|rfl|(simp;done)|(simp [*];done)),H',⟨by first|omega|exact Nat.le_refl _⟩,⟨kz cZ⟩,⟨bz HB⟩⟩
    ·rw [aj c8] at H
     have uf:decide (7<eP)=false:=jC c8;clear c8;have H':=Aside0.mk H;clear H;have AaH:=xC cZ.out;have AaI:=blk_frozen cZ.out
     go_wp2
     repeat (go_quiet (fail);try go_wp2)
     go_meet
     case rel=>exact ⟨_,(decide (eX>8191)),(by first|rfl|(simp;done)|(simp [*];done)),H',⟨by first|omega|exact Nat.le_refl _⟩,⟨kz cZ⟩,⟨bz HB⟩⟩
  ·rw [aj c5] at H
   have qR:(((bD.length:Int) % 4)==0)=false:=iM c5;have wO:(((bD.length:Int) % 4) !=0)=true:=pq c5
   (first|rw [qR]|(simp only [i64_w,i32_w];rw [qR])|skip)
   have H':=Aside0.mk H;clear H;have Anx:=xC cZ.out;have Anz:=blk_frozen cZ.out
   go_wp2
   repeat (go_quiet (fail);try go_wp2)
   go_meet
   case rel=>exact ⟨_,(true),(by first|rfl|(simp;done)|(simp [*];done)),H',⟨by first|omega|exact Nat.le_refl _⟩,⟨kz cZ⟩,⟨bz HB⟩⟩
 case rest=>
  clear HC2
  try clear vK
  try clear vM
  try clear vN
  try clear vO
  try clear zU
  try clear O4
  try clear O5
  try clear O6
  try clear O7
  try clear Pg
  try clear vP
  try clear vS
  try clear vT
  try clear vU
  try clear zV
  try clear Ph
  try clear Pj
  try clear Pm
  try clear Pn
  try clear Po
  obtain ⟨kq,We,rfl,HA,HJ1,cZ,HB⟩:=hcut
  cases kq with
  |zero=>exact absurd HA.out (by simp [ig.j0])
  |succ XD=>
   have H:=HA.out;clear HA;simp only [ig.j0] at H
   by_cases c12:We=true
   ·subst c12
    have H1:(some (([]:List Int),21))=some (r1,r2):=by rw [ah rfl] at H;exact H
    clear H;have H:=H1;clear H1;simp only [Option.some.injEq,Prod.mk.injEq] at H
    obtain ⟨rfl,rfl⟩:=H
    go_wp2
    repeat (go_quiet (fail);try go_wp2)
    go_ret2
    exact ⟨_,by first|rfl|(simp [ae,af]<;>rfl)|(simp [*,ae,af]<;>rfl),by first|exact Kd.bV _ _ _ _ _|exact Kd.lV _ _ _ _ _|exact Kd.lW _ _ _ _ _|exact Kd.lT _ _ _ _ _|exact Kd.lU _ _ _ _ _,bz HB⟩
   ·replace c12:=FT c12
    subst c12;have H1:(if (dw.length:Int)>(wrap64 (65535 - (wrap64 (20+(bD.length:Int))))) then (some (([]:List Int),23)) else ((some (([fC,fD]:List Int):List Int)).bind fun qU=>(ig.l0 XD (([Go.bits .or .u8 64 ((wrap64 (Int.tdiv (wrap64 (20+(bD.length:Int))) 4)) % 256),aI,((wrap64 ((wrap64 (20+(bD.length:Int)))+(dw.length:Int))) / 256) % 256,(wrap64 ((wrap64 (20+(bD.length:Int)))+(dw.length:Int))) % 256,(bn / 256) % 256,(bn) % 256,((Go.bits .or .u16 (IntKind.u16.wrap ((IntKind.u16.wrap (eP))*8192)) eX) / 256) % 256,(Go.bits .or .u16 (IntKind.u16.wrap ((IntKind.u16.wrap (eP))*8192)) eX) % 256,aV,aX,0,0]:List Int)) qU (qU.length:Int) 0 aI aV aX bn eP eX fC fD bD dw)))=some (r1,r2):=by rw [aj (show ¬ (false=true) by decide)] at H;exact H
    clear H;have H:=H1;clear H1
    by_cases c13:(dw.length:Int)>(wrap64 (65535 - (wrap64 (20+(bD.length:Int)))))
    ·rw [ah c13] at H
     have Zk:decide ((wrap64 (65535 - (wrap64 (20+(bD.length:Int)))))<(dw.length:Int))=true:=bJ c13;clear c13;simp only [Option.some.injEq,Prod.mk.injEq] at H
     obtain ⟨rfl,rfl⟩:=H;have AnA:=xC cZ.out;have AnB:=blk_frozen cZ.out
     go_wp2
     repeat (go_quiet (fail);try go_wp2)
     go_ret2
     exact ⟨_,by first|rfl|(simp [ae,af]<;>rfl)|(simp [*,ae,af]<;>rfl),by first|exact Kd.bV _ _ _ _ _|exact Kd.lV _ _ _ _ _|exact Kd.lW _ _ _ _ _|exact Kd.lT _ _ _ _ _|exact Kd.lU _ _ _ _ _,bz HB⟩
    ·rw [aj c13] at H
     have Zk:decide ((wrap64 (65535 - (wrap64 (20+(bD.length:Int)))))<(dw.length:Int))=false:=jC c13;clear c13;obtain ⟨y153,hy153⟩:∃ y_:List Int,y_=(([Go.bits .or .u8 64 ((wrap64 (Int.tdiv (wrap64 (20+(bD.length:Int))) 4)) % 256),aI,((wrap64 ((wrap64 (20+(bD.length:Int)))+(dw.length:Int))) / 256) % 256,(wrap64 ((wrap64 (20+(bD.length:Int)))+(dw.length:Int))) % 256,(bn / 256) % 256,(bn) % 256,((Go.bits .or .u16 (IntKind.u16.wrap ((IntKind.u16.wrap (eP))*8192)) eX) / 256) % 256,(Go.bits .or .u16 (IntKind.u16.wrap ((IntKind.u16.wrap (eP))*8192)) eX) % 256,aV,aX,0,0]:List Int)):=⟨_,rfl⟩
     rw [<- hy153] at H
     have AfU:=Aside0.mk hy153;clear hy153;obtain ⟨qU,AaJ⟩:∃ y_:List Int,y_=(([fC,fD]:List Int)):=⟨_,rfl⟩
     rw [<- AaJ] at H
     have NG:=Aside0.mk AaJ;clear AaJ;have H':=Aside0.mk H;clear H;have AaK:=xC cZ.out;have AaL:=blk_frozen cZ.out
     go_wp2_with (first|((with_reducible refine gate_dst (N:=88) rfl ?_);(try (refine eH (by rfl) ?_;dsimp only));refine Kd.wI (Kd.int .u32) _ 27 ?hg (N:=88) ?hd (xs:=([fC,fD]:List Int)) (inner:=[.int .u32 fC,.int .u32 fD]) (ok:=fun _=>True) (xw:=fun _=>True) ?hr ?hp (fun _ hk=>hk) trivial (Below.refl _ _) (Nat.le_refl _) (by simp) ?_;(case hd=>rfl);(case hg=>rfl);(case hr=>first|(go_simp;done)|(go_simp;rfl));(case hp=>exact (dn.one (show Kd.M (Kd.int .u32) _ _ _ fC [.int .u32 fC] from rfl) (dn.one (show Kd.M (Kd.int .u32) _ _ _ fD [.int .u32 fD] from rfl) (dn.none _ _))));intro v157 w19 Dw hb hg_ kP;clear hg_ kP;(first|rw [<- NG.out] at Dw|(simp only [Int.reduceToNat] at Dw;rw [<- NG.out] at Dw));have ay:=Aside0.mk (Kd.jd (Kd.rz EX) hb);have aC:=Aside0.mk (Kd.R_lower Dw (below_size (bz HB)));have bg:=Aside0.mk (aZ (kz cZ) hb);have dm:=Aside0.mk (ag (bz HB) hb);clear EX;clear cZ;clear HB;have EX:=ay;have NH:=aC;have cZ:=bg;have HB:=dm;clear ay aC bg dm;clear hb Dw;obtain ⟨Ai8,Ai9,AaM⟩:=Kd.dN NH.out;subst AaM))
     repeat (go_quiet (first|((with_reducible refine gate_dst (N:=88) rfl ?_);(try (refine eH (by rfl) ?_;dsimp only));refine Kd.wI (Kd.int .u32) _ 27 ?hg (N:=88) ?hd (xs:=([fC,fD]:List Int)) (inner:=[.int .u32 fC,.int .u32 fD]) (ok:=fun _=>True) (xw:=fun _=>True) ?hr ?hp (fun _ hk=>hk) trivial (Below.refl _ _) (Nat.le_refl _) (by simp) ?_;(case hd=>rfl);(case hg=>rfl);(case hr=>first|(go_simp;done)|(go_simp;rfl));(case hp=>exact (dn.one (show Kd.M (Kd.int .u32) _ _ _ fC [.int .u32 fC] from rfl) (dn.one (show Kd.M (Kd.int .u32) _ _ _ fD [.int .u32 fD] from rfl) (dn.none _ _))));intro v157 w19 Dw hb hg_ kP;clear hg_ kP;(first|rw [<- NG.out] at Dw|(simp only [Int.reduceToNat] at Dw;rw [<- NG.out] at Dw));have ay:=Aside0.mk (Kd.jd (Kd.rz EX) hb);have aC:=Aside0.mk (Kd.R_lower Dw (below_size (bz HB)));have bg:=Aside0.mk (aZ (kz cZ) hb);have dm:=Aside0.mk (ag (bz HB) hb);clear EX;clear cZ;clear HB;have EX:=ay;have NH:=aC;have cZ:=bg;have HB:=dm;clear ay aC bg dm;clear hb Dw;obtain ⟨Ai8,Ai9,AaM⟩:=Kd.dN NH.out;subst AaM));try go_wp2_with (first|((with_reducible refine gate_dst (N:=83) rfl ?_);(try (refine eH (by rfl) ?_;dsimp only));refine Kd.wI (Kd.int .u8) _ 5 ?hg (N:=83) ?hd (xs:=([Go.bits .or .u8 64 ((wrap64 (Int.tdiv (wrap64 (20+(bD.length:Int))) 4)) % 256),aI,((wrap64 ((wrap64 (20+(bD.length:Int)))+(dw.length:Int))) / 256) % 256,(wrap64 ((wrap64 (20+(bD.length:Int)))+(dw.length:Int))) % 256,(bn / 256) % 256,(bn) % 256,((Go.bits .or .u16 (IntKind.u16.wrap ((IntKind.u16.wrap (eP))*8192)) eX) / 256) % 256,(Go.bits .or .u16 (IntKind.u16.wrap ((IntKind.u16.wrap (eP))*8192)) eX) % 256,aV,aX,0,0]:List Int)) (inner:=[.int .u8 (Go.bits .or .u8 64 ((wrap64 (Int.tdiv (wrap64 (20+(bD.length:Int))) 4)) % 256)),.int .u8 aI,.int .u8 (((wrap64 ((wrap64 (20+(bD.length:Int)))+(dw.length:Int))) / 256) % 256),.int .u8 ((wrap64 ((wrap64 (20+(bD.length:Int)))+(dw.length:Int))) % 256),.int .u8 ((bn / 256) % 256),.int .u8 ((bn) % 256),.int .u8 (((Go.bits .or .u16 (IntKind.u16.wrap ((IntKind.u16.wrap (eP))*8192)) eX) / 256) % 256),.int .u8 ((Go.bits .or .u16 (IntKind.u16.wrap ((IntKind.u16.wrap (eP))*8192)) eX) % 256),.int .u8 aV,.int .u8 aX,.int .u8 0,.int .u8 0]) (ok:=fun _=>True) (xw:=fun _=>True) ?hr ?hp (fun _ hk=>hk) trivial (Below.refl _ _) (Nat.le_refl _) (by simp) ?_;(case hd=>rfl);(case hg=>rfl);(case hr=>first|(go_simp;done)|(go_simp;simp only [IntKind.wrap_u8,IntKind.wrap_u16,IntKind.wrap_u32];done)|(go_simp;rfl));(case hp=>exact (dn.one (show Kd.M (Kd.int .u8) _ _ _ (Go.bits .or .u8 64 ((wrap64 (Int.tdiv (wrap64 (20+(bD.length:Int))) 4)) % 256)) [.int .u8 (Go.bits .or .u8 64 ((wrap64 (Int.tdiv (wrap64 (20+(bD.length:Int))) 4)) % 256))] from rfl) (dn.one (show Kd.M (Kd.int .u8) _ _ _ aI [.int .u8 aI] from rfl) (dn.one (show Kd.M (Kd.int .u8) _ _ _ (((wrap64 ((wrap64 (20+(bD.length:Int)))+(dw.length:Int))) / 256) % 256) [.int .u8 (((wrap64 ((wrap64 (20+(bD.length:Int)))+(dw.length:Int))) / 256) % 256)] from rfl) (dn.one (show Kd.M (Kd.int .u8) _ _ _ ((wrap64 ((wrap64 (20+(bD.length:Int)))+(dw.length:Int))) % 256) [.int .u8 ((wrap64 ((wrap64 (20+(bD.length:Int)))+(dw.length:Int))) % 256)] from rfl) (dn.one (show Kd.M (Kd.int .u8) _ _ _ ((bn / 256) % 256) [.int .u8 ((bn / 256) % 256)] from rfl) (dn.one (show Kd.M (Kd.int .u8) _ _ _ ((bn) % 256) [.int .u8 ((bn) % 256)] from rfl) (dn.one (show Kd.M (Kd.int .u8) _ _ _ (((Go.bits .or .u16 (IntKind.u16.wrap ((IntKind.u16.wrap (eP))*8192)) eX) / 256) % 256) [.int .u8 (((Go.bits .or .u16 (IntKind.u16.wrap ((IntKind.u16.wrap (eP))*8192)) eX) / 256) % 256)] from rfl) (dn.one (show Kd.M (Kd.int .u8) _ _ _ ((Go.bits .or .u16 (IntKind.u16.wrap ((IntKind.u16.wrap (eP))*8192)) eX) % 256) [.int .u8 ((Go.bits .or .u16 (IntKind.u16.wrap ((IntKind.u16.wrap (eP))*8192)) eX) % 256)] from rfl) (dn.one (show Kd.M (Kd.int .u8) _ _ _ aV [.int .u8 aV] from rfl) (dn.one (show Kd.M (Kd.int .u8) _ _ _ aX [.int .u8 aX] from rfl) (dn.one (show Kd.M (Kd.int .u8) _ _ _ 0 [.int .u8 0] from rfl) (dn.one (show Kd.M (Kd.int .u8) _ _ _ 0 [.int .u8 0] from rfl) (dn.none _ _))))))))))))));intro v154 w16 AaN hb hg_ kP;clear hg_ kP;(first|rw [<- AfU.out] at AaN|(simp only [Int.reduceToNat] at AaN;rw [<- AfU.out] at AaN));have ay:=Aside0.mk (Kd.R_lower AaN (below_size (bz HB)));have aC:=Aside0.mk (aZ (kz cZ) hb);have bg:=Aside0.mk (ag (bz HB) hb);clear cZ;clear HB;have EX:=ay;have cZ:=aC;have HB:=bg;clear ay aC bg;clear hb AaN;have Wj:w16.cell? ⟨nR,0,none⟩=some (.int .u8 aI):=cz cZ.out 0 rfl;have Wl:w16.cell? ⟨nR,1,none⟩=some (.int .u8 aV):=cz cZ.out 1 rfl;have Wn:w16.cell? ⟨nR,2,none⟩=some (.int .u8 aX):=cz cZ.out 2 rfl;have Wp:w16.cell? ⟨nR,3,none⟩=some (.int .u16 bn):=cz cZ.out 3 rfl;have Adf:w16.cell? ⟨nR,4,none⟩=some (.int .u8 eP):=cz cZ.out 4 rfl;have Adg:w16.cell? ⟨nR,5,none⟩=some (.int .u16 eX):=cz cZ.out 5 rfl;have Adh:w16.cell? ⟨nR,6,none⟩=some (.int .u32 fC):=cz cZ.out 6 rfl;have Adi:w16.cell? ⟨nR,7,none⟩=some (.int .u32 fD):=cz cZ.out 7 rfl;have Adj:w16.cell? ⟨nR,8,none⟩=some (.slice lX bD.length lY):=cz cZ.out 8 rfl;have Adk:w16.cell? ⟨nR,9,none⟩=some (.slice lZ dw.length l7):=cz cZ.out 9 rfl;have Wq:=blk_frozen cZ.out 0;have Ws:=blk_frozen cZ.out 1;have Wu:=blk_frozen cZ.out 2;have Wv:=blk_frozen cZ.out 3;have Adl:=blk_frozen cZ.out 4;have Adm:=blk_frozen cZ.out 5;have Adn:=blk_frozen cZ.out 6;have Ado:=blk_frozen cZ.out 7;have Adp:=blk_frozen cZ.out 8;have Adq:=blk_frozen cZ.out 9)|((with_reducible refine gate_dst (N:=88) rfl ?_);(try (refine eH (by rfl) ?_;dsimp only));refine Kd.wI (Kd.int .u32) _ 27 ?hg (N:=88) ?hd (xs:=([fC,fD]:List Int)) (inner:=[.int .u32 fC,.int .u32 fD]) (ok:=fun _=>True) (xw:=fun _=>True) ?hr ?hp (fun _ hk=>hk) trivial (Below.refl _ _) (Nat.le_refl _) (by simp) ?_;(case hd=>rfl);(case hg=>rfl);(case hr=>first|(go_simp;done)|(go_simp;rfl));(case hp=>exact (dn.one (show Kd.M (Kd.int .u32) _ _ _ fC [.int .u32 fC] from rfl) (dn.one (show Kd.M (Kd.int .u32) _ _ _ fD [.int .u32 fD] from rfl) (dn.none _ _))));intro v157 w19 Dw hb hg_ kP;clear hg_ kP;(first|rw [<- NG.out] at Dw|(simp only [Int.reduceToNat] at Dw;rw [<- NG.out] at Dw));have ay:=Aside0.mk (Kd.jd (Kd.rz EX) hb);have aC:=Aside0.mk (Kd.R_lower Dw (below_size (bz HB)));have bg:=Aside0.mk (aZ (kz cZ) hb);have dm:=Aside0.mk (ag (bz HB) hb);clear EX;clear cZ;clear HB;have EX:=ay;have NH:=aC;have cZ:=bg;have HB:=dm;clear ay aC bg dm;clear hb Dw;obtain ⟨Ai8,Ai9,AaM⟩:=Kd.dN NH.out;subst AaM)))
     go_loopg [7,90] XD (fun kq v7 v90 w'=>∃ (EF:List Int) (ng:Int),v90= .int .i64 ng /\ Aside0 (ig.l0 kq EF qU (qU.length:Int) ng aI aV aX bn eP eX fC fD bD dw=some (r1,r2)) /\ Aside0 (kq<=XD) /\ Aside0 (Kd.R (Kd.int .u8) 5 w' w.heap.size (fun _=>True) v7 EF) /\ Aside0 (Kd.R (Kd.int .u32) 27 w' w.heap.size (fun _=>True) (.slice Ai8 qU.length Ai9) qU) /\ Aside0 (w'.heap[nR]?=some (.cells #[.int .u8 aI,.int .u8 aV,.int .u8 aX,.int .u16 bn,.int .u8 eP,.int .u16 eX,.int .u32 fC,.int .u32 fD,(.slice lX bD.length lY),(.slice lZ dw.length l7)] 73 (0,0))) /\ Aside0 (Below w.heap.size w w'))
     case atStart=>exact ⟨(y153),(0),(by first|rfl|(simp;done)|(simp [*];done)),H',⟨Nat.le_refl _⟩,⟨Kd.rz EX⟩,⟨Kd.rz NH⟩,⟨kz cZ⟩,⟨bz HB⟩⟩
     case round=>
      clear H'
      try clear c12
      try clear c13
      try clear Zk
      try clear AaK
      try clear Wj
      try clear Wl
      try clear Wn
      try clear Wp
      try clear Adf
      try clear Adg
      try clear Adh
      try clear Adi
      try clear Adj
      try clear Adk
      try clear vK
      try clear vM
      try clear vN
      try clear vO
      try clear zU
      try clear O4
      try clear O5
      try clear O6
      try clear O7
      try clear Pg
      try clear AaL
      try clear Wq
      try clear Ws
      try clear Wu
      try clear Wv
      try clear Adl
      try clear Adm
      try clear Adn
      try clear Ado
      try clear Adp
      try clear Adq
      try clear vP
      try clear vS
      try clear vT
      try clear vU
      try clear zV
      try clear Ph
      try clear Pj
      try clear Pm
      try clear Pn
      try clear Po
      obtain ⟨EF,ng,rfl,HA,HK2,IW,qi,cZ,HB⟩:=hrel
      cases gk with
      |zero=>exact absurd HA.out (by simp [ig.l0])
      |succ k2=>
       have H:=HA.out;clear HA;simp only [ig.l0] at H
       by_cases Qx:ng<(qU.length:Int)
       ·rw [ah Qx] at H
        have Zd:decide (ng<(qU.length:Int))=true:=bJ Qx;clear Qx
        by_cases c23:0<=ng
        ·rw [ah c23] at H
         have ZB:decide (0<=ng)=true:=bJ c23;clear c23
         by_cases c24:ng<(qU.length:Int)
         ·rw [ah c24] at H
          have Ae5:decide (ng<(qU.length:Int))=true:=bJ c24;clear c24;obtain ⟨y160,hy160⟩:∃ y_:List Int,y_=(([((rd qU ng) / 16777216) % 256,((rd qU ng) / 65536) % 256,((rd qU ng) / 256) % 256,(rd qU ng) % 256]:List Int)):=⟨_,rfl⟩
          replace H:(if EF.length+y160.length<140737488355328 then (ig.l0 k2 (EF++y160) qU (qU.length:Int) (wrap64 (ng+1)) aI aV aX bn eP eX fC fD bD dw) else (none))=some (r1,r2):=by first|(rw [hy160];with_reducible exact H)|(have oO:=(bG _ _).symm.trans H;rw [hy160];with_reducible exact oO)|(have oO:=(bG _ _).symm.trans H;with_reducible exact oO)|with_reducible exact H|(rw [hy160];exact H)|exact H
          have AfV:=Aside0.mk hy160;clear hy160
          by_cases c25:EF.length+y160.length<140737488355328
          ·rw [ah c25] at H
           have Aac:=Aside0.mk c25;clear c25;obtain ⟨AnC,RN⟩:∃ y_:List Int,y_=(EF++y160):=⟨_,rfl⟩
           replace H:(ig.l0 k2 AnC qU (qU.length:Int) (wrap64 (ng+1)) aI aV aX bn eP eX fC fD bD dw)=some (r1,r2):=by first|(rw [RN];with_reducible exact H)|(have oO:=(bG _ _).symm.trans H;rw [RN];with_reducible exact oO)|(have oO:=(bG _ _).symm.trans H;with_reducible exact oO)|with_reducible exact H|(rw [RN];exact H)|exact H
           have AnD:=Aside0.mk RN;clear RN;have H':=Aside0.mk H;clear H;have Aja:0<=(ng:Int):=je;have Ajb:ng<(qU.length:Int):=je;obtain ⟨Axt,Aus,Aqy⟩:=Kd.dU (Kd.R_reads' qi.out).2.2 ng Aja Ajb
           cases Aus
           replace Aja:=eq_true Aja;replace Ajb:=eq_true Ajb
           go_wp2_with (first|((with_reducible refine gate_dst (N:=106) rfl ?_);(try (refine eH (by rfl) ?_;dsimp only));refine Kd.wI (Kd.int .u8) _ 5 ?hg (N:=106) ?hd (xs:=([((rd qU ng) / 16777216) % 256,((rd qU ng) / 65536) % 256,((rd qU ng) / 256) % 256,(rd qU ng) % 256]:List Int)) (inner:=[.int .u8 (((rd qU ng) / 16777216) % 256),.int .u8 (((rd qU ng) / 65536) % 256),.int .u8 (((rd qU ng) / 256) % 256),.int .u8 ((rd qU ng) % 256)]) (ok:=fun _=>True) (xw:=fun _=>True) ?hr ?hp (fun _ hk=>hk) trivial (Below.refl _ _) (Nat.le_refl _) (by simp) ?_;(case hd=>rfl);(case hg=>rfl);(case hr=>first|(go_simp;done)|(go_simp;simp only [IntKind.wrap_u8,IntKind.wrap_u16,IntKind.wrap_u32];done)|(go_simp;rfl));(case hp=>exact (dn.one (show Kd.M (Kd.int .u8) _ _ _ (((rd qU ng) / 16777216) % 256) [.int .u8 (((rd qU ng) / 16777216) % 256)] from rfl) (dn.one (show Kd.M (Kd.int .u8) _ _ _ (((rd qU ng) / 65536) % 256) [.int .u8 (((rd qU ng) / 65536) % 256)] from rfl) (dn.one (show Kd.M (Kd.int .u8) _ _ _ (((rd qU ng) / 256) % 256) [.int .u8 (((rd qU ng) / 256) % 256)] from rfl) (dn.one (show Kd.M (Kd.int .u8) _ _ _ ((rd qU ng) % 256) [.int .u8 ((rd qU ng) % 256)] from rfl) (dn.none _ _))))));intro Azo w26 XP hb hg_ kP;clear hg_ kP;(first|rw [<- AfV.out] at XP|(simp only [Int.reduceToNat] at XP;rw [<- AfV.out] at XP));have ay:=Aside0.mk (Kd.rD (Kd.rz IW) (Kd.nU XP) hb);have aC:=Aside0.mk (Kd.jd (Kd.rz qi) hb);have bg:=Aside0.mk (Kd.R_lower (Kd.xy XP (Kd.uB (Kd.rz IW))) (below_size (bz HB)));have dm:=Aside0.mk (aZ (kz cZ) hb);have Ae:=Aside0.mk (ag (bz HB) hb);clear IW;clear qi;clear cZ;clear HB;have IW:=ay;have qi:=aC;have NI:=bg;have cZ:=dm;have HB:=Ae;clear ay aC bg dm Ae;clear hb XP;obtain ⟨Aut,Auu,Auv⟩:=Kd.dN NI.out;subst Auv)|((with_reducible refine iF (b:= .append) (xs:= #[.tmp 94,.tmp 106]) rfl ?_);(try (refine eH (by rfl) ?_;dsimp only));at_builtin;refine Kd.jv (Kd.int .u8) (w0:=w) w.heap.size rfl (.tmp 94) (.tmp 106) 23 5 (.int .u8 0) 1 rfl Try.underlying23 info5 rfl (by decide) (by omega) u7 EF y160 _ _ _ (fun k_=>some k_≠(.slice Aut y160.length Auu:Value).ownBlock) (fun _=>False) rfl rfl ?aO ?aR (fun _ _ h=>h) (fun _ h=>h.elim) ?aF ?aB ?aS ?aL ?_;(case aR=>repeat (first|exact (Kd.R_reads' NI.out).2.2|(with_reducible refine Kd.iL ?_ _)|(with_reducible refine Kd.iD ?_ _)|(with_reducible refine Kd.jE ?_)));(case aB=>exact bz HB);(case aF=>exact (fun k_ hk=>Kd.fresh' (Kd.uB (Kd.rz NI)) k_ hk));(case aO=>exact (by (with_reducible repeat (first|apply Kd.ik|apply Kd.gV|apply Kd.iq));exact Kd.R_mono IW.out (fun _ hk=>hk.2)));(case aS=>exact (below_size (bz HB)));(case aL=>have:=Aac.out;omega);intro v164 w28 ho hb hg hat;rw [<- AnD.out] at ho;have ay:=Aside0.mk (Kd.AA (Kd.rz qi) (Kd.yx (Kd.rz IW)) (by decide) hg);have aC:=Aside0.mk (jK (kz cZ) hg (Kd.rV IW.out cZ.out (by decide)));have bg:=Aside0.mk (Kd.tX (ok:=(fun _=>True)) (Kd.rz NI) hg hat);have dm:=Aside0.mk (hb);have Ae:=Aside0.mk (ho);clear qi;clear cZ;clear NI;clear HB;clear IW;have qi:=ay;have cZ:=aC;have NI:=bg;have HB:=dm;have AnE:=Ae;clear ay aC bg dm Ae;clear ho hb hg hat))
           go_roundg k2
           case measure=>have:=HJ1.out;have:=HK2.out;omega
           case rel=>exact ⟨(AnC),(wrap64 (ng+1)),(by first|rfl|(simp;done)|(simp [*];done)),H',⟨by have:=HJ1.out;have:=HK2.out;omega⟩,⟨by (with_reducible repeat (first|apply Kd.ik|apply Kd.gV|apply Kd.iq));exact Kd.R_mono AnE.out (fun _ hk=>trivial)⟩,⟨Kd.rz qi⟩,⟨kz cZ⟩,⟨bz HB⟩⟩
          ·rw [aj c25] at H
           cases H
         ·rw [aj c24] at H
          cases H
        ·rw [aj c23] at H
         cases H
       ·rw [aj Qx] at H
        have Zd:decide (ng<(qU.length:Int))=false:=jC Qx;clear Qx
        by_cases c30:EF.length+bD.length<140737488355328
        ·rw [ah c30] at H
         have AnF:=Aside0.mk c30;clear c30;obtain ⟨vX,RP⟩:∃ y_:List Int,y_=(EF++bD):=⟨_,rfl⟩
         replace H:((uy.f k2 vX).bind fun Dv=>(if 10<(vX.length:Int) then (if 11<(vX.length:Int) then ((some ((vX.set (10:Int).toNat ((Dv / 256) % 256)).set (11:Int).toNat ((Dv) % 256):List Int)).bind fun Fp=>(if Fp.length+dw.length<140737488355328 then (some ((Fp++dw),0)) else (none))) else (none)) else (none)))=some (r1,r2):=by first|(rw [RP];with_reducible exact H)|(have oO:=(bG _ _).symm.trans H;rw [RP];with_reducible exact oO)|(have oO:=(bG _ _).symm.trans H;with_reducible exact oO)|with_reducible exact H|(rw [RP];exact H)|exact H
         have AnG:=Aside0.mk RP;clear RP;replace H:=dM H;obtain ⟨Dv,AaO,H⟩:=H;replace H:(if 10<(vX.length:Int) then (if 11<(vX.length:Int) then ((some ((vX.set (10:Int).toNat ((Dv / 256) % 256)).set (11:Int).toNat ((Dv) % 256):List Int)).bind fun Fp=>(if Fp.length+dw.length<140737488355328 then (some ((Fp++dw),0)) else (none))) else (none)) else (none))=some (r1,r2):=H;have A31:=Aside0.mk AaO;clear AaO
         by_cases c32:10<(vX.length:Int)
         ·rw [ah c32] at H
          have Ami:decide (10<(vX.length:Int))=true:=bJ c32;have Amj:decide (10<vX.length)=true:=bJ (by omega);clear c32;obtain ⟨AnH,AaP⟩:∃ y_:List Int,y_=(vX.set (10:Int).toNat ((Dv / 256) % 256)):=⟨_,rfl⟩
          rw [<- AaP] at H
          have AnI:=Aside0.mk AaP;clear AaP
          by_cases c34:11<(vX.length:Int)
          ·rw [ah c34] at H
           have Axu:decide (11<(vX.length:Int))=true:=bJ c34;have Axv:decide (11<vX.length)=true:=bJ (by omega);clear c34;obtain ⟨Fp,RQ⟩:∃ y_:List Int,y_=(AnH.set (11:Int).toNat ((Dv) % 256)):=⟨_,rfl⟩
           replace H:(if Fp.length+dw.length<140737488355328 then (some ((Fp++dw),0)) else (none))=some (r1,r2):=by first|(rw [RQ];with_reducible exact H)|(have oO:=(bG _ _).symm.trans H;rw [RQ];with_reducible exact oO)|(have oO:=(bG _ _).symm.trans H;with_reducible exact oO)|with_reducible exact H|(rw [RQ];exact H)|exact H
           have AnJ:=Aside0.mk RQ;clear RQ
           by_cases c36:Fp.length+dw.length<140737488355328
           ·rw [ah c36] at H
            have AnK:=Aside0.mk c36;clear c36;obtain ⟨Aux,RS⟩:∃ y_:List Int,y_=(Fp++dw):=⟨_,rfl⟩
            replace H:(some (Aux,0))=some (r1,r2):=by first|(rw [RS];with_reducible exact H)|(have oO:=(bG _ _).symm.trans H;rw [RS];with_reducible exact oO)|(have oO:=(bG _ _).symm.trans H;with_reducible exact oO)|with_reducible exact H|(rw [RS];exact H)|exact H
            have AnL:=Aside0.mk RS;clear RS;simp only [Option.some.injEq,Prod.mk.injEq] at H
            obtain ⟨rfl,rfl⟩:=H;have AnM:=xC cZ.out;have AnN:=blk_frozen cZ.out
            go_wp2_with (first|((with_reducible refine iF (b:= .append) (xs:= #[.tmp 109,.tmp 111]) rfl ?_);(try (refine eH (by rfl) ?_;dsimp only));at_builtin;refine Kd.jv (Kd.int .u8) (w0:=w) w.heap.size rfl (.tmp 109) (.tmp 111) 23 5 (.int .u8 0) 1 rfl Try.underlying23 info5 rfl (by decide) (by omega) u7 EF bD _ _ _ (fun _=>True) (fun _=>False) rfl rfl ?aO ?aR (fun _ _ h=>h) (fun _ h=>h.elim) ?aF ?aB ?aS ?aL ?_;(case aR=>exact Kd.aJ IA.out (bz HB));(case aB=>exact bz HB);(case aF=>exact (fun _ _=>trivial));(case aO=>exact (Kd.rz IW));(case aS=>exact (below_size (bz HB)));(case aL=>have:=AnF.out;omega);intro v167 w38 ho hb hg hat;rw [<- AnG.out] at ho;have ay:=Aside0.mk (Kd.AA (Kd.rz qi) (Kd.yx (Kd.rz IW)) (by decide) hg);have aC:=Aside0.mk (jK (kz cZ) hg (Kd.rV IW.out cZ.out (by decide)));have bg:=Aside0.mk (hb);have dm:=Aside0.mk (ho);clear qi;clear cZ;clear HB;clear IW;have qi:=ay;have cZ:=aC;have HB:=bg;have nK:=dm;clear ay aC bg dm;clear ho hb hg hat;obtain ⟨Pq,GH,UF⟩:=Kd.dN nK.out;subst UF)|(go_at_call 90;(with_reducible refine (uy.calls k2 _ _ vX Dv _ ?au ?ax A31.out).mono ?_);(case au=>repeat (first|exact (Kd.R_reads' nK.out).2.2|(with_reducible refine Kd.iL ?_ _)|(with_reducible refine Kd.iD ?_ _)|(with_reducible refine Kd.jE ?_)));(case ax=>exact (Kd.R_reads' nK.out).2.1);rintro e J8 ⟨rfl,hb⟩;have ay:=Aside0.mk (Kd.jd (Kd.rz qi) hb);have aC:=Aside0.mk (Kd.jd (Kd.rz nK) hb);have bg:=Aside0.mk (aZ (kz cZ) hb);have dm:=Aside0.mk (ag (bz HB) hb);clear qi;clear nK;clear cZ;clear HB;have qi:=ay;have nK:=aC;have cZ:=bg;have HB:=dm;clear ay aC bg dm;(try clear hb);(try clear hb2);(try clear hk);(try clear hi);have p33:0<=(10:Int):=(by omega);have q33:(10:Int)<((vX.length:Int):Int):=je;have Azp:(10<vX.length)=True:=eq_true (by omega);obtain ⟨Pv,Gv,MS,AnO,Auz,Azq,AnP⟩:=Kd.R_form nK.out (by omega);(first|cases MS|(injection MS with ea_ en_ ec_;(first|subst ea_|(injection ea_ with ea_;subst ea_));subst ec_;clear en_));have AnQ:=Aside0.mk AnO;have Azr:=Aside0.mk AnP;clear AnO Auz AnP;obtain ⟨AaQ,AaR⟩:=Kd.qZ 0 nK.out (10:Int) p33 q33;(try rw [show ((10:Int)).toNat=10 from rfl] at AaQ);(try simp only [Nat.reduceMul,Nat.zero_mul,Nat.zero_add,Nat.reduceAdd] at AaQ);(try rw [show ((10:Int)).toNat=10 from rfl] at AaR);(try simp only [Nat.reduceMul,Nat.zero_mul,Nat.zero_add,Nat.reduceAdd] at AaR);replace p33:=eq_true p33;replace q33:=eq_true q33;obtain ⟨RU,RV⟩:=Kd.qZ 0 nK.out (10:Int) (by omega) je;(try simp only [Int.reduceToNat,Int.toNat_zero,Int.toNat_ofNat,Nat.reduceMul,Nat.zero_mul,Nat.zero_add] at RU RV);(try rw [show ((10:Int)).toNat=10 from rfl] at RU);(try rw [show ((10:Int)).toNat=10 from rfl] at RV);have Ads:=Kd.G7 nK.out (10:Int) ((Dv / 256) % 256))|((with_reducible refine AB (t:=5) (p:=122) rfl ?_);(try (rw [iC J8];generalize nO:World.drewN J8 _=J8;have ay:=Aside0.mk (Kd.AcF nO qi.out);have aC:=Aside0.mk (Kd.AcF nO nK.out);have bg:=Aside0.mk (YY nO cZ.out);have dm:=Aside0.mk (Qq nO HB.out);clear nO qi nK cZ HB;have qi:=ay;have nK:=aC;have cZ:=bg;have HB:=dm;clear ay aC bg dm;(try (obtain ⟨RU,RV⟩:=Kd.qZ 0 nK.out (10:Int) (by omega) je));(try (try simp only [Int.reduceToNat,Int.toNat_zero,Int.toNat_ofNat,Nat.reduceMul,Nat.zero_mul,Nat.zero_add] at RU RV));(try (try rw [show ((10:Int)).toNat=10 from rfl] at RU));(try (try rw [show ((10:Int)).toNat=10 from rfl] at RV));(try (have Ads:=Kd.G7 nK.out (10:Int) ((Dv / 256) % 256)))));refine zf (t:=5) (p:=122) (v:= ?AuC) (w1:=(J8.setCell ⟨Pv,(10:Int).toNat,none⟩ (.int .u8 ((Dv / 256) % 256)))) ?hg ?ho ?hn ?hr ?_;(case ho=>rfl);(case hg=>rfl);(case hn=>rfl);(case hr=>first|(go_simp;done)|(go_simp;rfl));intro w42 hw;have hg:J8.grownBy w42 (some Pv):=(by rw [hw];exact Ads.2);have hp_:Kd.R (Kd.int .u8) 5 w42 w.heap.size (fun _=>True) (.slice (some ⟨Pv,0,none⟩) vX.length GH) AnH:=(by rw [hw,AnI.out];exact Ads.1);clear Ads;have ay:=Aside0.mk (Kd.AA (v:=(.slice (some ⟨Pv,0,none⟩) vX.length GH)) (Kd.rz qi) (Kd.yx nK.out) (by decide) hg);have aC:=Aside0.mk (jK (kz cZ) hg (Kd.rV nK.out cZ.out (by decide)));have bg:=Aside0.mk (hp_);have dm:=Aside0.mk ((by rw [hw];exact zZ (HB.out) AnQ.out:Below w.heap.size w w42));clear qi;clear cZ;clear nK;clear HB;have qi:=ay;have cZ:=aC;have nK:=bg;have HB:=dm;clear ay aC bg dm;clear hg hw hp_;have p35:0<=(11:Int):=(by omega);have q35:(11:Int)<((vX.length:Int):Int):=je;have Azs:(11<vX.length)=True:=eq_true (by omega);obtain ⟨AaT,AaU⟩:=Kd.qZ 0 nK.out (11:Int) p35 q35;(try rw [show ((11:Int)).toNat=11 from rfl] at AaT);(try simp only [Nat.reduceMul,Nat.zero_mul,Nat.zero_add,Nat.reduceAdd] at AaT);(try rw [show ((11:Int)).toNat=11 from rfl] at AaU);(try simp only [Nat.reduceMul,Nat.zero_mul,Nat.zero_add,Nat.reduceAdd] at AaU);replace p35:=eq_true p35;replace q35:=eq_true q35;obtain ⟨RX,RY⟩:=Kd.qZ 0 nK.out (11:Int) (by omega) je;(try simp only [Int.reduceToNat,Int.toNat_zero,Int.toNat_ofNat,Nat.reduceMul,Nat.zero_mul,Nat.zero_add] at RX RY);(try rw [show ((11:Int)).toNat=11 from rfl] at RX);(try rw [show ((11:Int)).toNat=11 from rfl] at RY);have Adt:=Kd.G7 nK.out (11:Int) ((Dv) % 256))|((with_reducible refine AB (t:=5) (p:=123) rfl ?_);(try (rw [iC w42];generalize nO:World.drewN w42 _=w42;have ay:=Aside0.mk (Kd.AcF nO qi.out);have aC:=Aside0.mk (Kd.AcF nO nK.out);have bg:=Aside0.mk (YY nO cZ.out);have dm:=Aside0.mk (Qq nO HB.out);clear nO qi nK cZ HB;have qi:=ay;have nK:=aC;have cZ:=bg;have HB:=dm;clear ay aC bg dm;(try (obtain ⟨RX,RY⟩:=Kd.qZ 0 nK.out (11:Int) (by omega) je));(try (try simp only [Int.reduceToNat,Int.toNat_zero,Int.toNat_ofNat,Nat.reduceMul,Nat.zero_mul,Nat.zero_add] at RX RY));(try (try rw [show ((11:Int)).toNat=11 from rfl] at RX));(try (try rw [show ((11:Int)).toNat=11 from rfl] at RY));(try (have Adt:=Kd.G7 nK.out (11:Int) ((Dv) % 256)))));refine zf (t:=5) (p:=123) (v:= ?AuD) (w1:=(w42.setCell ⟨Pv,(11:Int).toNat,none⟩ (.int .u8 ((Dv) % 256)))) ?hg ?ho ?hn ?hr ?_;(case ho=>rfl);(case hg=>rfl);(case hn=>rfl);(case hr=>first|(go_simp;done)|(go_simp;rfl));intro V5 hw;have hg:w42.grownBy V5 (some Pv):=(by rw [hw];exact Adt.2);have hp_:Kd.R (Kd.int .u8) 5 V5 w.heap.size (fun _=>True) (.slice (some ⟨Pv,0,none⟩) vX.length GH) Fp:=(by rw [hw,AnJ.out];exact Adt.1);clear Adt;have ay:=Aside0.mk (Kd.AA (v:=(.slice (some ⟨Pv,0,none⟩) vX.length GH)) (Kd.rz qi) (Kd.yx nK.out) (by decide) hg);have aC:=Aside0.mk (jK (kz cZ) hg (Kd.rV nK.out cZ.out (by decide)));have bg:=Aside0.mk (hp_);have dm:=Aside0.mk ((by rw [hw];exact zZ (HB.out) AnQ.out:Below w.heap.size w V5));clear qi;clear cZ;clear nK;clear HB;have qi:=ay;have cZ:=aC;have nK:=bg;have HB:=dm;clear ay aC bg dm;clear hg hw hp_;have AqB:V5.cell? ⟨nR,0,none⟩=some (.int .u8 aI):=cz cZ.out 0 rfl;have AqC:V5.cell? ⟨nR,1,none⟩=some (.int .u8 aV):=cz cZ.out 1 rfl;have AqD:V5.cell? ⟨nR,2,none⟩=some (.int .u8 aX):=cz cZ.out 2 rfl;have AqE:V5.cell? ⟨nR,3,none⟩=some (.int .u16 bn):=cz cZ.out 3 rfl;have AqF:V5.cell? ⟨nR,4,none⟩=some (.int .u8 eP):=cz cZ.out 4 rfl;have AqG:V5.cell? ⟨nR,5,none⟩=some (.int .u16 eX):=cz cZ.out 5 rfl;have AqH:V5.cell? ⟨nR,6,none⟩=some (.int .u32 fC):=cz cZ.out 6 rfl;have AqI:V5.cell? ⟨nR,7,none⟩=some (.int .u32 fD):=cz cZ.out 7 rfl;have AqJ:V5.cell? ⟨nR,8,none⟩=some (.slice lX bD.length lY):=cz cZ.out 8 rfl;have AqK:V5.cell? ⟨nR,9,none⟩=some (.slice lZ dw.length l7):=cz cZ.out 9 rfl;have AqL:=blk_frozen cZ.out 0;have AqM:=blk_frozen cZ.out 1;have AqN:=blk_frozen cZ.out 2;have AqO:=blk_frozen cZ.out 3;have AqP:=blk_frozen cZ.out 4;have AqQ:=blk_frozen cZ.out 5;have AqR:=blk_frozen cZ.out 6;have AqS:=blk_frozen cZ.out 7;have AqT:=blk_frozen cZ.out 8;have AqU:=blk_frozen cZ.out 9)|((with_reducible refine iF (b:= .append) (xs:= #[.tmp 124,.tmp 126]) rfl ?_);(try (refine eH (by rfl) ?_;dsimp only));at_builtin;refine Kd.jv (Kd.int .u8) (w0:=w) w.heap.size rfl (.tmp 124) (.tmp 126) 23 5 (.int .u8 0) 1 rfl Try.underlying23 info5 rfl (by decide) (by omega) (.slice (some ⟨Pv,0,none⟩) vX.length GH) Fp dw _ _ _ (fun _=>True) (fun _=>False) rfl rfl ?aO ?aR (fun _ _ h=>h) (fun _ h=>h.elim) ?aF ?aB ?aS ?aL ?_;(case aR=>exact Kd.aJ IB.out (bz HB));(case aB=>exact bz HB);(case aF=>exact (fun _ _=>trivial));(case aO=>exact (Kd.rz nK));(case aS=>exact (below_size (bz HB)));(case aL=>have:=AnK.out;omega);intro v173 w46 ho hb hg hat;rw [<- AnL.out] at ho;have ay:=Aside0.mk (Kd.AA (Kd.rz qi) (Kd.yx (Kd.rz nK)) (by decide) hg);have aC:=Aside0.mk (jK (kz cZ) hg (Kd.rV nK.out cZ.out (by decide)));have bg:=Aside0.mk (hb);have dm:=Aside0.mk (ho);clear qi;clear cZ;clear HB;clear nK;have qi:=ay;have cZ:=aC;have HB:=bg;have AnR:=dm;clear ay aC bg dm;clear ho hb hg hat))
            go_ret2
            exact ⟨_,by first|rfl|(simp [ae,af]<;>rfl)|(simp [*,ae,af]<;>rfl),by (with_reducible repeat (first|apply Kd.ik|apply Kd.gV|apply Kd.iq));exact AnR.out,bz HB⟩
           ·rw [aj c36] at H
            cases H
          ·rw [aj c34] at H
           cases H
         ·rw [aj c32] at H
          cases H
        ·rw [aj c30] at H
         cases H
attribute [local go_sem] xK
attribute [local go_sem] xM
attribute [local go_sem] xN
attribute [local go_sem] xO
attribute [local go_sem] xP
attribute [local go_sem] xQ
attribute [local go_sem] xR
attribute [local go_sem] xU
attribute [local go_sem] xW
attribute [local go_sem] xX
attribute [local go_sem] xY
attribute [local go_sem] xZ
def Px (k:Nat) (r:LK) (si sp di dp:Int) (py:Option (List Int)):Option (List Int×Int):=
 if r.e=0 then
  if r.pr=1 /\ (0<r.inn.length /\ ¬ (sp=0 /\ dp=0) \/ ¬ sp=dp) then some ([],21)
  else py.bind fun y=>ig.f k r.a r.t r.pr r.i r.fl r.of_ si di r.o y
 else some ([],r.e)
attribute [local go_sem] xK
attribute [local go_sem] xM
attribute [local go_sem] xN
attribute [local go_sem] xO
attribute [local go_sem] xP
attribute [local go_sem] xQ
attribute [local go_sem] xR
attribute [local go_sem] xU
attribute [local go_sem] xW
attribute [local go_sem] xX
attribute [local go_sem] xY
attribute [local go_sem] xZ
def Hy.R6.T:Bool×List (List Nat×List Nat):=(true,[([],[]),([0],[0]),([],[]),([2],[2]),([],[]),([],[]),([],[]),([4,5,6],[4,5,6]),([0,1],[]),([8,1,7,0,1],[1,8]),([0,1,2,3,8,9],[]),([10,3,9,0,1,2,3,8,9],[3,10]),([0,1,2,3,4,5,6,7,8,9,10,11],[]),([12,7,11,0,1,2,3,4,5,6,7,8,9,10,11],[7,12])])
theorem Hy.R6.tab:rtab .any (opsOf Try.f32 6)=Hy.R6.T:=by kernel_rfl
theorem Hy.R6.bits:waitsOk Hy.R6.T.2 [0,1,0,4,0,0,0,112,3,499,1023,2047,4095,8191]=true:=by kernel_rfl
theorem KT.via (k:Nat) (A:Option Addr) (c:Nat) (l:List Int) (r:LK) (si ps di pd:Int) (py:Option (List Int)) (rb:List Int) (re:Int) (w:World) (hC:Kd.C (Kd.int .u8) w A l.length l) (hL:l.length<=c) (h69:∀ w2:World,Kd.C (Kd.int .u8) w2 A l.length l ->Calls Try.prog 69 #[.slice A l.length c] w2 fun e w'=>r.Post w2.heap.size w2 e w') (h70:∀ y:List Int,py=some y ->∀ (w2:World) (vx:Value) (base:Nat),r.x.V w2 base vx ->Calls Try.prog 70 #[vx,.agg #[.int .u32 si,.int .u16 ps],.agg #[.int .u32 di,.int .u16 pd]] w2 fun e w'=>∃ vz:Value,e= .returned vz /\ Kd.R (Kd.int .u8) 5 w' w2.heap.size (fun _=>True) vz y /\ Below w2.heap.size w2 w') (h:Px k r si ps di pd py=some (rb,re)):
  Calls Try.prog 32 #[.slice A l.length c,.agg #[.int .u32 si,.int .u16 ps],.agg #[.int .u32 di,.int .u16 pd]] w fun e w'=>∃ vr:Value,e= .returned (.tuple #[vr,.int .i64 re]) /\ Kd.R (Kd.int .u8) 5 w' w.heap.size (fun _=>True) vr rb /\ Below w.heap.size w w':=by
 have hu65:=Try.underlying65;have hu73:=Try.underlying73;have hu76:=Try.underlying76;unfold Px at h
 obtain ⟨a,t,pr,i,fl,of_,s,d,o,b,x,sp,dp,ff,inn,e_⟩:=r;have HB:=jy w;have HC:=Aside0.mk hC;have HL:=Aside0.mk hL;have HP:=Aside0.mk h69;have H70:=Aside0.mk h70;have HF:=Aside0.mk h;have HI65:Aside0 ((Try.prog.info? 65).map (·.size)=some 2):=⟨by kernel_rfl⟩
 have HI73:Aside0 ((Try.prog.info? 73).map (·.size)=some 10):=⟨by kernel_rfl⟩
 have HI76:Aside0 ((Try.prog.info? 76).map (·.size)=some 7):=⟨by kernel_rfl⟩
 clear hC hL h h69 h70
 go_enter Try.func32,Try.ntmps32
 go_upto_region 1 with (first|((with_reducible refine gate_dst (N:=4) rfl ?_);refine box_event ?hg_ (N:=4) ?hd_ (cs:= #[.int .u32 si,.int .u16 ps]) (t:=65) ?hr_ ?_;(case hd_=>rfl);(case hg_=>rfl);(case hr_=>first|(go_simp;done)|(go_simp;rfl));intro gs hgg_ w1 hbox_ hbb_;have GHXs:=Aside0.mk (show w.heap.size<=gs by rw [hgg_];exact below_size HB.out);have HXs:=Aside0.mk hbox_;have hb_:=hbb_;replace HB:=mB HB hb_;clear hb_;clear hgg_ hbox_ hbb_)|((with_reducible refine gate_dst (N:=5) rfl ?_);refine box_event ?hg_ (N:=5) ?hd_ (cs:= #[.int .u32 di,.int .u16 pd]) (t:=65) ?hr_ ?_;(case hd_=>rfl);(case hg_=>rfl);(case hr_=>first|(go_simp;done)|(go_simp;rfl));intro gd hgg_ w2 hbox_ hbb_;have GHXd:=Aside0.mk (show w.heap.size<=gd by rw [hgg_];exact below_size HB.out);have HXd:=Aside0.mk hbox_;have NE_HXs_HXd:Aside0 (gs≠gd):=⟨by rw [hgg_];exact (blk_less HXs).out⟩;have hb_:=hbb_;replace HB:=mB HB hb_;replace HXs:=mX HXs hb_;clear hb_;clear hgg_ hbox_ hbb_))
 go_wp2_with fail
 refine (HP.out _ (Kd.aJ HC.out HB.out)).mono ?_;rintro ev w3 hpost;obtain ⟨vo,vb,vx,vi,rfl,ho,ho2,hx,hi,hb⟩:=hpost;dsimp only at ho ho2 hx hi
 have bW:=qP ho HB;obtain ⟨Ao,co,rfl,_,_⟩:=Kd.R_reads ho;clear ho;have HRb:=qP ho2 HB;obtain ⟨Ab,cb,rfl,_,_⟩:=Kd.R_reads ho2;clear ho2;have HRi:=Aside0.mk (Kd.R_lower hi (below_size HB.out));obtain ⟨Ai,ci,rfl,_,_⟩:=Kd.R_reads hi;clear hi;have HV:=Aside0.mk hx;clear hx;have hb_:=hb;replace HB:=mB HB hb_;replace HXs:=mX HXs hb_;replace HXd:=mX HXd hb_;clear hb_;clear hb HP
 (try dsimp only)
 go_upto_region 2 with (first|((with_reducible refine gate_dst (N:=8) rfl ?_);refine box_event ?hg_ (N:=8) ?hd_ (cs:= #[.int .u8 0,.int .u8 0,.int .u8 0,.int .u16 0,.int .u8 0,.int .u16 0,.int .u32 0,.int .u32 0,.slice none 0 0,.slice none 0 0]) (t:=73) ?hr_ ?_;(case hd_=>rfl);(case hg_=>rfl);(case hr_=>first|(go_simp;done)|(go_simp;rfl));intro gp hgg_ w4 hbox_ hbb_;have GHXp:=Aside0.mk (show w.heap.size<=gp by rw [hgg_];exact below_size HB.out);have HXp:=Aside0.mk hbox_;have hb_:=hbb_;replace HB:=mB HB hb_;replace HXs:=mX HXs hb_;replace HXd:=mX HXd hb_;replace bW:=mR bW hb_;replace HRb:=mR HRb hb_;replace HRi:=mI HRi hb_;replace HV:=mV HV hb_;clear hb_;clear hgg_ hbox_ hbb_)|((with_reducible refine gate_dst (N:=10) rfl ?_);refine box_event ?hg_ (N:=10) ?hd_ (cs:= #[.int .u8 0,.int .u32 0,.int .u16 0,.int .u32 0,.int .u16 0,.int .u8 0,.slice none 0 0]) (t:=76) ?hr_ ?_;(case hd_=>rfl);(case hg_=>rfl);(case hr_=>first|(go_simp;done)|(go_simp;rfl));intro gf hgg_ w5 hbox_ hbb_;have GHXf:=Aside0.mk (show w.heap.size<=gf by rw [hgg_];exact below_size HB.out);have HXf:=Aside0.mk hbox_;have hb_:=hbb_;replace HB:=mB HB hb_;replace HXs:=mX HXs hb_;replace HXd:=mX HXd hb_;replace bW:=mR bW hb_;replace HRb:=mR HRb hb_;replace HRi:=mI HRi hb_;replace HV:=mV HV hb_;replace HXp:=mX HXp hb_;clear hb_;clear hgg_ hbox_ hbb_)|((refine rw_putrow rfl rfl rfl rfl rfl HXp.out HI73.out rfl (by simp [Value.oneCell']) ?_);intro w6 hs_ off_;replace HXs:=oX off_ HXs HXp (by decide);replace HXd:=oX off_ HXd HXp (by decide);replace bW:=oR off_ bW HXp (by decide);replace HRb:=oR off_ HRb HXp (by decide);replace HRi:=oI off_ HRi HXp (by decide);replace HV:=oV off_ HV HXp (by decide);replace HXf:=oX off_ HXf HXp (by decide);replace HB:=oB off_ HB GHXp;clear off_;replace HXp:=Aside0.mk hs_;clear hs_)|((refine rw_putrow rfl rfl rfl rfl rfl HXf.out HI76.out rfl (by simp [Value.oneCell']) ?_);intro w7 hs_ off_;replace HXs:=oX off_ HXs HXf (by decide);replace HXd:=oX off_ HXd HXf (by decide);replace bW:=oR off_ bW HXf (by decide);replace HRb:=oR off_ HRb HXf (by decide);replace HRi:=oI off_ HRi HXf (by decide);replace HV:=oV off_ HV HXf (by decide);replace HXp:=oX off_ HXp HXf (by decide);replace HB:=oB off_ HB GHXf;clear off_;replace HXf:=Aside0.mk hs_;clear hs_))
 have H:=HF.out;clear HF
 (try dsimp only at H)
 by_cases ce:e_=0
 ·have KR:(e_==0)=true:=jf ce
  have UD:(e_ !=0)=false:=by rw [bne,KR];rfl
  rw [ah ce] at H
  clear ce;have AuE:=cz HXf.out 0 rfl;have gf_6:=cz HXf.out 6 rfl;have gs_1:=cz HXs.out 1 rfl;have AuF:=cz HXd.out 1 rfl
  by_cases hc:pr=1 /\ (0<inn.length /\ ¬ (ps=0 /\ pd=0) \/ ¬ ps=pd)
  ·rw [ah hc] at H
   simp only [Option.some.injEq,Prod.mk.injEq] at H
   obtain ⟨rfl,rfl⟩:=H;have h3:(pr=1 /\ 0<inn.length /\ ps=0 /\ ¬ pd=0) \/ (pr=1 /\ 0<inn.length /\ ¬ ps=0) \/ (pr=1 /\ ¬ 0<inn.length /\ ¬ ps=pd):=by omega
   clear hc
   rcases h3 with ⟨np,ni,ns,nd⟩|⟨np,ni,ns⟩|⟨np,ni,ne⟩
   ·have XQ:(pr==1)=true:=jf np;have np2:(pr !=1)=false:=(by rw [bne,XQ];rfl);have ni1:decide (0<(inn.length:Int))=true:=bJ (by omega);have ni2:decide (0<inn.length)=true:=bJ (by omega);have ns1:(ps==0)=true:=jf ns;have ns2:(ps !=0)=false:=(by rw [bne,ns1];rfl);have nd1:(pd==0)=false:=iM nd;have nd2:(pd !=0)=true:=bne_iff_ne.2 nd;clear np ni ns nd;(try dsimp only);go_wp2;(try simp only [Exit.inBlock,Exit.then]);go_ret2;exact ⟨_,rfl,Kd.bV _ _ _ _ _,HB.out⟩
   ·have XQ:(pr==1)=true:=jf np;have np2:(pr !=1)=false:=(by rw [bne,XQ];rfl);have ni1:decide (0<(inn.length:Int))=true:=bJ (by omega);have ni2:decide (0<inn.length)=true:=bJ (by omega);have ns1:(ps==0)=false:=iM ns;have ns2:(ps !=0)=true:=bne_iff_ne.2 ns;clear np ni ns;(try dsimp only);go_wp2;(try simp only [Exit.inBlock,Exit.then]);go_ret2;exact ⟨_,rfl,Kd.bV _ _ _ _ _,HB.out⟩
   ·have XQ:(pr==1)=true:=jf np;have np2:(pr !=1)=false:=(by rw [bne,XQ];rfl);have ni1:decide (0<(inn.length:Int))=false:=jC (by omega);have ni2:decide (0<inn.length)=false:=jC (by omega);have ne1:(ps==pd)=false:=iM ne;have ne2:(ps !=pd)=true:=bne_iff_ne.2 ne;clear np ni ne;(try dsimp only);go_wp2;(try simp only [Exit.inBlock,Exit.then]);go_ret2;exact ⟨_,rfl,Kd.bV _ _ _ _ _,HB.out⟩
  ·rw [aj hc] at H
   obtain ⟨y,hy,H⟩:=dI H;have HY:=Aside0.mk hy;have HG:=Aside0.mk H;clear hy H;have h3:(¬ pr=1) \/ (pr=1 /\ 0<inn.length /\ ps=0 /\ pd=0) \/ (pr=1 /\ ¬ 0<inn.length /\ ps=pd):=by omega
   clear hc
   rcases h3 with np|⟨np,ni,ns,nd⟩|⟨np,ni,ne⟩
   all_goals first
    |(have XQ:(pr==1)=false:=iM np;have np2:(pr !=1)=true:=bne_iff_ne.2 np;clear np;(try dsimp only);go_upto_region 6 with (fail);clear XQ np2)
    |(have XQ:(pr==1)=true:=jf np;have np2:(pr !=1)=false:=(by rw [bne,XQ];rfl);have ni1:decide (0<(inn.length:Int))=true:=bJ (by omega);have ni2:decide (0<inn.length)=true:=bJ (by omega);have ns1:(ps==0)=true:=jf ns;have ns2:(ps !=0)=false:=(by rw [bne,ns1];rfl);have nd1:(pd==0)=true:=jf nd;have nd2:(pd !=0)=false:=(by rw [bne,nd1];rfl);have ne:ps=pd:=(by omega);have ne1:(ps==pd)=true:=jf ne;have ne2:(ps !=pd)=false:=(by rw [bne,ne1];rfl);clear np ni ns nd ne;(try dsimp only);go_upto_region 6 with (fail);clear XQ np2 ni1 ni2 ns1 ns2 nd1 nd2 ne1 ne2)
    |(have XQ:(pr==1)=true:=jf np;have np2:(pr !=1)=false:=(by rw [bne,XQ];rfl);have ni1:decide (0<(inn.length:Int))=false:=jC (by omega);have ni2:decide (0<inn.length)=false:=jC (by omega);have ne1:(ps==pd)=true:=jf ne;have ne2:(ps !=pd)=false:=(by rw [bne,ne1];rfl);clear np ni ne;(try dsimp only);go_upto_region 6 with (fail);clear XQ np2 ni1 ni2 ne1 ne2)
   all_goals
    clear AuE gf_6 gs_1 AuF;refine start_ (n:=14) (S:=fun w'=>w'.heap[gs]?=some (.cells #[.int .u32 si,.int .u16 ps] 65 (0,0)) /\ w'.heap[gd]?=some (.cells #[.int .u32 di,.int .u16 pd] 65 (0,0))) (ds:=[]) #[false,false,false,false,false,false,false,false,false,false,false,false,false,false] (by kernel_rfl) rfl rfl ⟨HXs.out,HXd.out⟩ (fun hHeld=> ?_);refine with_tabW Hy.R6.tab Hy.R6.bits (fun HT_ HW_=> ?_);have hb_:=below_drew1 (Below.refl w7.heap.size w7);replace HB:=mB HB hb_;replace HXs:=mX HXs hb_;replace HXd:=mX HXd hb_;replace bW:=mR bW hb_;replace HRb:=mR HRb hb_;replace HRi:=mI HRi hb_;replace HV:=mV HV hb_;replace HXp:=mX HXp hb_;replace HXf:=mX HXf hb_;clear hb_;generalize w7.drew=w8 at HB HXs HXd bW HRb HRi HV HXp HXf hHeld|-
    refine pz 0 48 HT_ ?_;refine pz 2 50 HT_ ?_;refine pz 4 52 HT_ ?_;refine take_ (i:=1) (N:=some 49) (v:= ?_) (a':= ?_) #[true,true,true,false,true,false,false,false,false,false,false,false,false,false] rfl rfl (take_ofW HT_.out HW_.out (by kernel_rfl)) (fun _ _ _ h=>h) (Or.inl ⟨by rfl, ?_⟩) hHeld ?_ ?_
    rotate_left
    ·intro w' s0
     obtain ⟨s0,s1⟩:=s0;have s0_:=(blk_cell s0 0).trans (rfl:_=some (.int .u32 si:Value))
     go_simp
     with_reducible rfl
    rotate_left
    ·simp only [vF]
     rfl
    refine pz 8 56 HT_ ?_;refine take_ (i:=3) (N:=some 51) (v:= ?_) (a':= ?_) #[true,true,true,true,true,false,false,false,true,false,false,false,false,false] rfl rfl (take_ofW HT_.out HW_.out (by kernel_rfl)) (fun _ _ _ h=>h) (Or.inl ⟨by rfl, ?_⟩) hHeld ?_ ?_
    rotate_left
    ·intro w' s0
     obtain ⟨s0,s1⟩:=s0;have s0_:=(blk_cell s1 0).trans (rfl:_=some (.int .u32 di:Value))
     go_simp
     with_reducible rfl
    rotate_left
    ·simp only [vF]
     rfl
    refine tv 5 53 (.agg #[.int .u32 si,.int .u16 ps]) HT_ HW_ hHeld ?_ ?_
    ·intro w' s0
     obtain ⟨s0,s1⟩:=s0;exact rw_load (p:= .tmp 4) (ty:=65) (by rfl) (by rfl) s0 hu65 (by rfl) HI65.out
    refine nz 53 ?_;refine tv 6 54 (.agg #[.int .u32 di,.int .u16 pd]) HT_ HW_ hHeld ?_ ?_
    ·intro w' s0
     obtain ⟨s0,s1⟩:=s0;exact rw_load (p:= .tmp 5) (ty:=65) (by rfl) (by rfl) s1 hu65 (by rfl) HI65.out
    refine nz 54 ?_;refine oz 7 (some 55) HT_ (fun K hK=> ?_);refine goes_ Try.func70 (by kernel_rfl) rfl #[vx,.agg #[.int .u32 si,.int .u16 ps],.agg #[.int .u32 di,.int .u16 pd]] (by rfl) rfl rfl (by first|rfl|(go_simp;done)|(go_simp;rfl)|(go_simp;decide)) ?_;refine (H70.out y HY.out _ vx _ HV.out).mono ?_;rintro ev w9 ⟨vy,rfl,ho,hb⟩;have HRy:=Aside0.mk (Kd.R_lower ho (below_size HB.out));obtain ⟨Ay,cy,rfl,_,_⟩:=Kd.R_reads ho;clear ho HY;have hb_:=hb;replace HB:=mB HB hb_;replace HXs:=mX HXs hb_;replace HXd:=mX HXd hb_;replace bW:=mR bW hb_;replace HRb:=mR HRb hb_;replace HRi:=mI HRi hb_;replace HV:=mV HV hb_;replace HXp:=mX HXp hb_;replace HXf:=mX HXf hb_;clear hb_;clear hb;refine ⟨_,rfl, ?_⟩;refine hK.out _ _ ⟨HXs.out,HXd.out⟩ (fun hHeld=> ?_);clear hK K;refine nz 55 ?_;refine oz 9 (none) HT_ (fun K hK=> ?_)
    refine kX (i:=6) (v:= .int .u32 si) (cs':= #[.int .u8 a,.int .u8 t,.int .u8 pr,.int .u16 i,.int .u8 fl,.int .u16 of_,.int .u32 si,.int .u32 d,.slice Ao o.length co,.slice Ab b.length cb]) (by rfl) (by rfl) HXp.out rfl (by (have m_:=(blk_cell HXp.out 6).trans (rfl:_=some (.int .u32 s:Value)));(have mf_:=blk_frozen HXp.out 6);first|(go_simp;done)|(go_simp;rfl)) ?_;intro w10 hs_ off_;replace HXs:=oX off_ HXs HXp (by decide);replace HXd:=oX off_ HXd HXp (by decide);replace bW:=oR off_ bW HXp (by decide);replace HRb:=oR off_ HRb HXp (by decide);replace HRi:=oI off_ HRi HXp (by decide);replace HV:=oV off_ HV HXp (by decide);replace HXf:=oX off_ HXf HXp (by decide);replace HRy:=oR off_ HRy HXp (by decide);replace HB:=oB off_ HB GHXp;clear off_;replace HXp:=Aside0.mk hs_;clear hs_
    refine hK.out _ _ ⟨HXs.out,HXd.out⟩ (fun hHeld=> ?_);clear hK K;refine pz 10 57 HT_ ?_;refine oz 11 (none) HT_ (fun K hK=> ?_);refine kX (i:=7) (v:= .int .u32 di) (cs':= #[.int .u8 a,.int .u8 t,.int .u8 pr,.int .u16 i,.int .u8 fl,.int .u16 of_,.int .u32 si,.int .u32 di,.slice Ao o.length co,.slice Ab b.length cb]) (by rfl) (by rfl) HXp.out rfl (by (have m_:=(blk_cell HXp.out 7).trans (rfl:_=some (.int .u32 d:Value)));(have mf_:=blk_frozen HXp.out 7);first|(go_simp;done)|(go_simp;rfl)) ?_;intro w11 hs_ off_;replace HXs:=oX off_ HXs HXp (by decide);replace HXd:=oX off_ HXd HXp (by decide);replace bW:=oR off_ bW HXp (by decide);replace HRb:=oR off_ HRb HXp (by decide);replace HRi:=oI off_ HRi HXp (by decide);replace HV:=oV off_ HV HXp (by decide);replace HXf:=oX off_ HXf HXp (by decide)
    replace HRy:=oR off_ HRy HXp (by decide);replace HB:=oB off_ HB GHXp;clear off_;replace HXp:=Aside0.mk hs_;clear hs_;refine hK.out _ _ ⟨HXs.out,HXd.out⟩ (fun hHeld=> ?_);clear hK K;refine pz 12 58 HT_ ?_;refine oz 13 (none) HT_ (fun K hK=> ?_);refine kX (i:=9) (v:= .slice Ay y.length cy) (cs':= #[.int .u8 a,.int .u8 t,.int .u8 pr,.int .u16 i,.int .u8 fl,.int .u16 of_,.int .u32 si,.int .u32 di,.slice Ao o.length co,.slice Ay y.length cy]) (by rfl) (by rfl) HXp.out rfl (by (have m_:=(blk_cell HXp.out 9).trans (rfl:_=some (.slice Ab b.length cb:Value)));(have mf_:=blk_frozen HXp.out 9);first|(go_simp;done)|(go_simp;rfl)) ?_;intro w12 hs_ off_;replace HXs:=oX off_ HXs HXp (by decide);replace HXd:=oX off_ HXd HXp (by decide);replace bW:=oR off_ bW HXp (by decide);replace HRb:=oR off_ HRb HXp (by decide)
    replace HRi:=oI off_ HRi HXp (by decide);replace HV:=oV off_ HV HXp (by decide);replace HXf:=oX off_ HXf HXp (by decide);replace HRy:=oR off_ HRy HXp (by decide);replace HB:=oB off_ HB GHXp;clear off_;replace HXp:=Aside0.mk hs_;clear hs_;refine hK.out _ _ ⟨HXs.out,HXd.out⟩ (fun hHeld=> ?_);clear hK K;refine dz HT_ ?_;clear HT_ HW_ hHeld;have H:=HG.out;clear HG
    (try dsimp only)
    go_wp2_with (refine Kd.event_run rfl (rw_load rfl rfl HXp.out Try.underlying73 rfl HI73.out) ?_)
    refine (ig.calls k a t pr i fl of_ si di Ao co o Ay cy y rb re _ (Kd.R_reads' bW.out).2.2 (Kd.R_reads' bW.out).2.1 (Kd.R_reads' HRy.out).2.2 (Kd.R_reads' HRy.out).2.1 H).mono ?_;rintro ev w13 ⟨vr,rfl,ho,hb⟩;have UG:=Aside0.mk (Kd.R_lower ho (below_size HB.out));clear ho;have hb_:=hb;replace HB:=mB HB hb_;replace HXs:=mX HXs hb_;replace HXd:=mX HXd hb_;replace bW:=mR bW hb_;replace HRb:=mR HRb hb_;replace HRi:=mI HRi hb_;replace HV:=mV HV hb_;replace HXp:=mX HXp hb_;replace HXf:=mX HXf hb_;replace HRy:=mR HRy hb_;clear hb_;clear hb
    (try dsimp only)
    go_wp2
    (try simp only [Exit.inBlock,Exit.then])
    go_ret2
    exact ⟨_,rfl,UG.out,HB.out⟩
 ·have KR:(e_==0)=false:=iM ce
  have UD:(e_ !=0)=true:=bne_iff_ne.2 ce;rw [aj ce] at H
  clear ce;simp only [Option.some.injEq,Prod.mk.injEq] at H
  obtain ⟨rfl,rfl⟩:=H
  (try dsimp only)
  go_wp2
  (try simp only [Exit.inBlock,Exit.then])
  go_ret2
  exact ⟨_,rfl,Kd.bV _ _ _ _ _,HB.out⟩
theorem Ajc (g o j:Nat):(⟨g,o,none⟩:Addr).add j=⟨g,o+j,none⟩:=by
 unfold Addr.add
 split<;>simp_all
theorem Ajd {w:World} {base c g n e:Nat} {ok:Nat ->Prop} {xs:List Int} (hR:Kd.R (Kd.int .u8) e w base ok (.slice (some ⟨g,0,none⟩) n c) xs) (m:Nat) (hm:m<=xs.length):Kd.C (Kd.int .u8) w (some ⟨g,0,none⟩) (xs.take m).length (xs.take m):=Kd.AgR (Kd.R_reads' hR).2.2 hm
theorem Adu {P:Program} (t e:TypeId) (kh:IntKind) {i:TypeInfo} (ht:P.underlying t=some (.slice e)) (hi:P.info? e=some i) (hs:i.size=1) (g o n c:Nat) (x:Int) (j:Nat) (hx:x=(j:Int)) (hm:j<=n) (hc:j<c):∀ W:World,(Instr.slice t (.slice (some ⟨g,o,none⟩) n c) (some (.int kh x)) none none).run P W= .ok (.slice (some ⟨g,o+j,none⟩) (n - j) (c - j)) W:=by
 subst hx;intro W;have h:=YP (P:=P) t e kh ht hi 1 hs (some ⟨g,o,none⟩) n c (j:Int) (by omega) (by omega) W;rw [Int.toNat_natCast,aj (by omega)] at h
 simp only [Option.map_some,Ajc,Nat.mul_one] at h
 exact h
theorem Off.trans {W w1 w2:World} {g:Nat} (h:Off W w1 g) (h2:Off w1 w2 g):Off W w2 g:=⟨h2.os.trans h.os,h2.tape.trans h.tape,h2.output.trans h.output,h2.size.trans h.size,fun k hk=>(h2.far k hk).trans (h.far k hk)⟩
theorem UH {P:Program} {o:Oper} {ev:Operand ->Value} {W:World} {t e:TypeId} (hu:P.underlying t=some (.slice e)) {x lo:Operand} {vx vl r:Value} (ho:o.op= .slice t x (some lo) none none) (hx:ev x=vx) (hl:ev lo=vl) (h:(Instr.slice t vx (some vl) none none).run P W= .ok r W):(execOp ev o).run P W= .ok (.value r) W:=by
 unfold execOp;simp only [ho,Option.map_some,Option.map_none,hx,hl]
 simp [Instr.sliceAt,underlying,hu,h,Sem.run_bind,Result.andThen]
theorem UI {P:Program} {o:Oper} {ev:Operand ->Value} {W:World} {t e:TypeId} (hu:P.underlying t=some (.slice e)) {x lo:Operand} {vx vl r:Value} (ho:o.op= .slice t x none (some lo) none) (hx:ev x=vx) (hl:ev lo=vl) (h:(Instr.slice t vx none (some vl) none).run P W= .ok r W):(execOp ev o).run P W= .ok (.value r) W:=by
 unfold execOp;simp only [ho,Option.map_some,Option.map_none,hx,hl]
 simp [Instr.sliceAt,underlying,hu,h,Sem.run_bind,Result.andThen]
def Dx (xs:List Int) (j:Nat) (a:Int):List Int:=(xs.set j (a / 256 % 256)).set (j+1) (a % 256)
theorem GI (xs:List Int) (j:Nat) (a:Int):(Dx xs j a).length=xs.length:=by unfold Dx;rw [List.length_set,List.length_set]
theorem Wx (g j m c c2 base:Nat) (ok:Nat ->Prop) (xs:List Int) (n:Nat) (a1:Int) (w:World) (hR:Kd.R (Kd.int .u8) 5 w base ok (.slice (some ⟨g,0,none⟩) n c) xs) (hj:j+2<=n) (hm:2<=m):
  Calls Try.prog 89 #[.slice (some ⟨g,j,none⟩) m c2,.int .u16 a1] w fun e w'=>e= .returned (.tuple #[]) /\ Kd.R (Kd.int .u8) 5 w' base ok (.slice (some ⟨g,0,none⟩) n c) (Dx xs j a1) /\ Off w w' g:=by
 obtain ⟨hc0,hf0⟩:=Kd.qZ (0:Int) hR (j:Int) (by omega) (by omega);have hR1:=Kd.Oj hR (j:Int) (a1 / 256 % 256);obtain ⟨hc1,hf1⟩:=Kd.qZ (0:Int) hR1 ((j+1:Nat):Int) (by omega) (by omega);have hR2:=Kd.Oj hR1 ((j+1:Nat):Int) (a1 % 256);rw [Int.toNat_natCast] at hc0 hf0 hR1 hc1 hf1 hR2
 rw [Int.toNat_natCast] at hc1 hf1 hR2
 have HR:=Aside0.mk hR2;have HO1:=Aside0.mk (Off.setCell w g j (.int .u8 (a1 / 256 % 256)));have b0:decide (0<(m:Int))=true:=bJ (by omega);have b1:decide (0<m)=true:=bJ (by omega);have b2:decide (1<(m:Int))=true:=bJ (by omega);have b3:decide (1<m)=true:=bJ (by omega);have b4:(0<m)=True:=eq_true (by omega);have b5:(1<m)=True:=eq_true (by omega);have b6:((m:Int)<=1)=False:=eq_false (by omega);have b7:(m<=1)=False:=eq_false (by omega);have b8:((1:Int)<(m:Int))=True:=eq_true (by omega);have mg:=Aside0.mk hc0;have HF0:=Aside0.mk hf0;have VJ:=Aside0.mk hc1;have HF1:=Aside0.mk hf1;clear hR hR1 hR2 hj hm hc0 hf0 hc1 hf1
 go_enter Try.func89,Try.ntmps89
 go_wp2_with (first|((refine rq rfl rfl (w1:=w.setCell ⟨g,j,none⟩ (.int .u8 (a1 / 256 % 256))) ?hr_ ?_);(case hr_=>(have m_:=mg.out);(have mf_:=HF0.out);first|(go_simp;done)|(go_simp;rfl));have HO2:=Aside0.mk (HO1.out.trans (Off.setCell (w.setCell ⟨g,j,none⟩ (.int .u8 (a1 / 256 % 256))) g (j+1) (.int .u8 (a1 % 256))));clear HO1;(have m_:=VJ.out);(have mf_:=HF1.out);generalize hw1:w.setCell ⟨g,j,none⟩ (.int .u8 (a1 / 256 % 256))=w1 at HR m_ mf_ HO2|-;clear hw1)|((refine rq rfl rfl (w1:=w1.setCell ⟨g,j+1,none⟩ (.int .u8 (a1 % 256))) ?hr_ ?_);(case hr_=>first|(go_simp;done)|(go_simp;rfl))))
 first|go_end0|((try simp only [Exit.inBlock,Exit.then]);refine bodyPost_ret (results_none rfl _ _ _) rfl ?_)
 exact ⟨rfl,HR.out,HO2.out⟩
def yc.f (k:Nat) (l:List Int) (head:Nat):Option (List Int):=(uy.f k ((Dx l 10 0).take head)).bind fun c=>some (Dx (Dx l 10 0) 10 c)
def yc.R2.T:Bool×List (List Nat×List Nat):=(true,[([],[]),([0],[0]),([],[]),([],[]),([2,3],[2,3]),([4],[4]),([1,5,5],[1,5])])
theorem yc.R2.tab:rtab .any (opsOf Try.f78 2)=yc.R2.T:=by kernel_rfl
theorem yc.R2.bits:waitsOk yc.R2.T.2 [0,1,0,0,12,28,63]=true:=by kernel_rfl
theorem yc.calls (k g n c hd:Nat) (l r:List Int) (w0 w:World) (hR:Kd.R (Kd.int .u8) 5 w w0.heap.size (fun _=>True) (.slice (some ⟨g,0,none⟩) n c) l) (hB:Below w0.heap.size w0 w) (hg:w0.heap.size<=g) (h12:12<=n) (hhd:hd<=n) (h:yc.f k l hd=some r):
  Calls Try.prog 78 #[.slice (some ⟨g,0,none⟩) n c,.int .i64 (hd:Int)] w fun e w'=>e= .returned (.slice (some ⟨g,0,none⟩) n c) /\ Kd.R (Kd.int .u8) 5 w' w0.heap.size (fun _=>True) (.slice (some ⟨g,0,none⟩) n c) r /\ Below w0.heap.size w0 w':=by
 unfold yc.f at h
 obtain ⟨i0,hi0,_,hsz,_⟩:=info_parts info5;obtain ⟨s,hs,h⟩:=dI h;obtain rfl:=eF h;have hl:=(Kd.R_reads' hR).1;have hc:=(Kd.R_reads' hR).2.1;have hcut:=Adu (P:=Try.prog) 23 5 .i64 Try.underlying23 hi0 hsz g 0 n c 10 10 rfl (by omega) (by omega);have Np:=Y3 (P:=Try.prog) 23 5 .i64 Try.underlying23 hi0 (some ⟨g,0,none⟩) n c (hd:Int) hd rfl (by omega) hc;rw [Nat.zero_add] at hcut
 have AuI:=Aside0.mk hcut;have AnT:=Aside0.mk Np;have HR:=Aside0.mk hR;have HB:=Aside0.mk hB;have HG:=Aside0.mk hg;have HS:=Aside0.mk hs;have HLH:Aside0 (hd<=(Dx l 10 0).length):=⟨by rw [GI];omega⟩
 have HTL:Aside0 (((Dx l 10 0).take hd).length=hd):=⟨by rw [List.length_take,GI];omega⟩
 have HLC:Aside0 (((Dx l 10 0).take hd).length<=c):=⟨by rw [HTL.out];omega⟩
 have AnU:Aside0 (10+2<=n):=⟨by omega⟩
 have Xv:Aside0 (2<=n - 10):=⟨by omega⟩
 clear hR hB hg hs hl hc Np hi0 hsz h12 hhd
 go_enter Try.func78,Try.ntmps78
 go_wp2_with fail
 clear hcut;refine (Wx g 10 (n - 10) c (c - 10) w0.heap.size (fun _=>True) l n 0 _ HR.out AnU.out Xv.out).mono ?_;rintro e w1 ⟨rfl,hr,ho⟩;have KU:=Aside0.mk hr;have jJ:=Aside0.mk (Off.below ho HB.out HG.out);clear HR HB hr ho;have HR:=KU;have HB:=jJ;clear KU jJ
 (try dsimp only)
 go_upto_region 2 with (fail)
 refine start_ (n:=7) (S:=fun _=>True) (ds:=[]) #[false,false,false,false,false,false,false] (by kernel_rfl) rfl rfl trivial (fun hHeld=> ?_);refine with_tabW yc.R2.tab yc.R2.bits (fun HT_ HW_=> ?_);have hb_:=below_drew1 (Below.refl w1.heap.size w1);have KU:=Aside0.mk (Kd.jd HR.out hb_);have jJ:=Aside0.mk (ag HB.out hb_);clear HR HB hb_;have HR:=KU;have HB:=jJ;clear KU jJ;generalize w1.drew=w2 at HR HB hHeld|-
 refine pz 0 8 HT_ ?_;refine pv 1 9 (.slice (some ⟨g,10,none⟩) (n - 10) (c - 10)) HT_ ?_ ?_
 ·intro w'
  exact UH (vx:= .slice (some ⟨g,0,none⟩) n c) (vl:= .int .i64 10) Try.underlying23 (by rfl) (by rfl) (by rfl) (AuI.out w')
 refine nz 9 ?_;refine pz 2 10 HT_ ?_;refine pz 3 11 HT_ ?_;refine pv 4 12 (.slice (some ⟨g,0,none⟩) hd c) HT_ ?_ ?_
 ·intro w'
  exact UI (vx:= .slice (some ⟨g,0,none⟩) n c) (vl:= .int .i64 (hd:Int)) Try.underlying23 (by rfl) (by rfl) (by rfl) (AnT.out w')
 refine nz 12 ?_;refine oz 5 (some 13) HT_ (fun K hK=> ?_);refine goes_ Try.func90 (by kernel_rfl) rfl #[.slice (some ⟨g,0,none⟩) hd c] (by rfl) rfl rfl (by first|rfl|(go_simp;done)|(go_simp;rfl)|(go_simp;decide)) ?_;have h90:=uy.calls k (some ⟨g,0,none⟩) c ((Dx l 10 0).take hd) s _ (Ajd HR.out hd HLH.out) HLC.out HS.out;rw [HTL.out] at h90
 refine h90.mono ?_;clear h90;rintro e w3 ⟨rfl,hb⟩;have KU:=Aside0.mk (Kd.jd HR.out hb);have jJ:=Aside0.mk (ag HB.out hb);clear HR HB hb;have HR:=KU;have HB:=jJ;clear KU jJ;refine ⟨_,rfl, ?_⟩;refine hK.out _ _ trivial (fun hHeld=> ?_);clear hK K;refine nz 13 ?_;refine oz 6 (some 14) HT_ (fun K hK=> ?_);refine goes_ Try.func89 (by kernel_rfl) rfl #[.slice (some ⟨g,10,none⟩) (n - 10) (c - 10),.int .u16 s] (by rfl) rfl rfl (by first|rfl|(go_simp;done)|(go_simp;rfl)|(go_simp;decide)) ?_;refine (Wx g 10 (n - 10) c (c - 10) w0.heap.size (fun _=>True) (Dx l 10 0) n s _ HR.out AnU.out Xv.out).mono ?_;rintro e w4 ⟨rfl,hr,ho⟩;have KU:=Aside0.mk hr;have jJ:=Aside0.mk (Off.below ho HB.out HG.out);clear HR HB hr ho;have HR:=KU;have HB:=jJ;clear KU jJ;refine ⟨_,rfl, ?_⟩
 refine hK.out _ _ trivial (fun hHeld=> ?_);clear hK K;refine nz 14 ?_;refine dz HT_ ?_;clear HT_ HW_ hHeld
 (try dsimp only)
 go_wp2
 (try simp only [Exit.inBlock,Exit.then])
 go_ret
 exact ⟨rfl,HR.out,HB.out⟩
def xm.f (k:Nat) (l:List Int):Option (List Int×Int):=
 (dL.f k l).bind fun ⟨_,t,_,_,_,_,_,_,_,_,e⟩=>if e=0 then
  if t=0 then some ([],21) else (kY.f l).bind fun ⟨x,hd⟩=>if 12<=x.length /\ 0<=hd /\ hd<=(x.length:Int) then (yc.f k (x.set 8 ((rd x 8 - 1) % 256)) hd.toNat).bind fun y=>some (y,0) else none
 else some ([],e)
theorem xm.calls (k:Nat) (A:Option Addr) (c:Nat) (l:List Int) (rb:List Int) (re:Int) (w:World) (hC:Kd.C (Kd.int .u8) w A l.length l) (hL:l.length<=c) (h:xm.f k l=some (rb,re)):
  Calls Try.prog 34 #[.slice A l.length c] w fun e w'=>∃ vr:Value,e= .returned (.tuple #[vr,.int .i64 re]) /\ Kd.R (Kd.int .u8) 5 w' w.heap.size (fun _=>True) vr rb /\ Below w.heap.size w w':=by
 have hu73:=Try.underlying73;unfold xm.f at h
 obtain ⟨⟨a,t,pr,i,fl,of_,s,d,o,b,e_⟩,hp,h⟩:=dI h;have HB:=jy w;have HC:=Aside0.mk hC;have HL:=Aside0.mk hL;have HP:=Aside0.mk hp;have HF:=Aside0.mk h;have HI73:Aside0 ((Try.prog.info? 73).map (·.size)=some 10):=⟨by kernel_rfl⟩
 clear hC hL h hp
 go_enter Try.func34,Try.ntmps34
 go_wp2_with fail
 refine (dL.calls k A c l a t pr i fl of_ s d o b e_ _ (Kd.aJ HC.out HB.out) HL.out HP.out).mono ?_;rintro ev w1 ⟨vo,vb,rfl,ho,ho2,hb⟩;have bW:=qP ho HB;obtain ⟨Ao,co,rfl,_,_⟩:=Kd.R_reads ho;clear ho;have HRb:=qP ho2 HB;obtain ⟨Ab,cb,rfl,_,_⟩:=Kd.R_reads ho2;clear ho2;have hb_:=hb;replace HB:=mB HB hb_;clear hb_;clear hb HP bW HRb
 (try dsimp only)
 go_upto_region 2 with (((refine iy rfl rfl rfl rfl rfl HI73.out rfl (by simp [Value.oneCell']) ?_);intro jm jU dP))
 revert jm jU dP;intro w2 jU dP;have HXp:Aside0 (w2.heap[w1.heap.size]?=some (.cells #[.int .u8 a,.int .u8 t,.int .u8 pr,.int .u16 i,.int .u8 fl,.int .u16 of_,.int .u32 s,.int .u32 d,.slice Ao o.length co,.slice Ab b.length cb] 73 (0,0))):=⟨jU⟩
 have GHXp:=FO HB;have hb_:=dP;replace HB:=mB HB hb_;clear hb_;clear jU dP;generalize w1.heap.size=gp at HXp GHXp|-
 have AaV:w2.cell? ⟨gp,1,none⟩=some (.int .u8 t):=(blk_cell HXp.out 1).trans rfl;have H:=HF.out;clear HF
 (try dsimp only at H)
 by_cases ce:e_=0
 ·have KR:(e_==0)=true:=jf ce
  have UD:(e_ !=0)=false:=by rw [bne,KR];rfl
  rw [ah ce] at H
  clear ce
  by_cases ct:t=0
  ·have ct1:(t==0)=true:=jf ct
   have ct2:(t !=0)=false:=by rw [bne,ct1];rfl
   rw [ah ct] at H
   clear ct;simp only [Option.some.injEq,Prod.mk.injEq] at H
   obtain ⟨rfl,rfl⟩:=H
   (try dsimp only)
   go_wp2
   (try simp only [Exit.inBlock,Exit.then])
   go_ret2
   exact ⟨_,rfl,Kd.bV _ _ _ _ _,HB.out⟩
  ·have ct1:(t==0)=false:=iM ct
   have ct2:(t !=0)=true:=bne_iff_ne.2 ct;rw [aj ct] at H
   clear ct;obtain ⟨⟨x,hd⟩,hx,H⟩:=dI H;dsimp only at H
   have HG:=Aside0.mk H;clear H
   (try dsimp only)
   go_wp2_with fail
   clear AaV;refine (kY.calls A c l x hd _ (Kd.aJ HC.out HB.out) HL.out hx).mono ?_;rintro ev w3 ⟨vx,rfl,ho,hb⟩;have HRx:=Aside0.mk (Kd.R_lower ho (below_size HB.out));clear ho hx;have hb_:=hb;replace HB:=mB HB hb_;replace HXp:=mX HXp hb_;clear hb_;clear HXp;clear hb;have H:=HG.out;clear HG
   by_cases hxl:12<=x.length /\ 0<=hd /\ hd<=(x.length:Int)
   case neg=>rw [aj hxl] at H;cases H
   rw [ah hxl] at H
   obtain ⟨h12,hd0,hdx⟩:=hxl;obtain ⟨m,rfl⟩:∃ m:Nat,hd=(m:Int):=⟨hd.toNat,(Int.toNat_of_nonneg hd0).symm⟩
   rw [Int.toNat_natCast] at H
   obtain ⟨r,hr,H⟩:=dI H;simp only [Option.some.injEq,Prod.mk.injEq] at H
   obtain ⟨rfl,rfl⟩:=H;obtain ⟨go,cap,rfl,hgo,_,_⟩:=Kd.R_form HRx.out (show 0<x.length by omega);obtain ⟨hc0,hf0⟩:=Kd.qZ (0:Int) HRx.out ((8:Nat):Int) (by omega) (by omega);have hR1:=Kd.Oj HRx.out ((8:Nat):Int) ((rd x 8 - 1) % 256);rw [Int.toNat_natCast] at hc0 hf0 hR1
   have HS0:Aside0 (w3.cell? ⟨go,8,none⟩=some (.int .u8 (rd x 8))):=⟨hc0⟩
   have HF0:=Aside0.mk hf0;have HRn:=Aside0.mk hR1;have HGO:=Aside0.mk hgo;have HNX:=Aside0.mk h12;have HMX:Aside0 (m<=x.length):=⟨by omega⟩
   have HRR:=Aside0.mk hr;have b0:decide (8<(x.length:Int))=true:=bJ (by omega);have b1:decide (8<x.length)=true:=bJ (by omega);have b6:((x.length:Int)<=8)=False:=eq_false (by omega);have b7:(x.length<=8)=False:=eq_false (by omega);have b8:((8:Int)<(x.length:Int))=True:=eq_true (by omega);clear hc0 hf0 hR1 hgo h12 hd0 hdx hr;have hs0:=HS0.out;have Uf:=HF0.out
   (try dsimp only)
   go_upto_region 8 with ((refine rq rfl rfl (w1:=w3.setCell ⟨go,8,none⟩ (.int .u8 ((rd x 8 - 1) % 256))) ?hr_ ?_);(case hr_=>first|(go_simp;done)|(go_simp;rfl)))
   clear hs0 Uf HS0 HF0 b0 b1 b6 b7 b8;have jJ:=Aside0.mk (Off.below (Off.setCell w3 go 8 (.int .u8 ((rd x 8 - 1) % 256))) HB.out HGO.out);clear HB HRx;have HB:=jJ;clear jJ;generalize w3.setCell ⟨go,8,none⟩ (.int .u8 ((rd x 8 - 1) % 256))=w9 at HB HRn|-
   go_wp2_with fail
   refine (yc.calls k go x.length cap m (x.set 8 ((rd x 8 - 1) % 256)) r w _ HRn.out HB.out HGO.out HNX.out HMX.out HRR.out).mono ?_;rintro ev w10 ⟨rfl,ho,hb⟩;have UG:=Aside0.mk ho;have jJ:=Aside0.mk hb;clear ho hb HRn HRR
   (try dsimp only)
   go_wp2
   (try simp only [Exit.inBlock,Exit.then])
   go_ret2
   exact ⟨_,rfl,UG.out,jJ.out⟩
 ·have KR:(e_==0)=false:=iM ce
  have UD:(e_ !=0)=true:=bne_iff_ne.2 ce;rw [aj ce] at H
  clear ce;simp only [Option.some.injEq,Prod.mk.injEq] at H
  obtain ⟨rfl,rfl⟩:=H
  (try dsimp only)
  go_wp2
  (try simp only [Exit.inBlock,Exit.then])
  go_ret2
  exact ⟨_,rfl,Kd.bV _ _ _ _ _,HB.out⟩
end Go.Proofs.Ytkmimamminddiaa.PB
