/- Texts of this claim, merged: PBx9, RwChg0, RwChgV, RwChg, RwHd, RwHop, PBx22, PBx25, PBx24, PBx28, PBx37, PBx38, PBx39. -/
import Derived.Test.YtkmimamminddiaaZpb
import Derived.Test.YtkmimamminddiaaZpd
import Derived.Deep.Cut
import Derived.Deep.CutRange
import Derived.Deep.CutBlock
import Derived.Deep.WholeRow
import Derived.Test.YtkmimamminddiaaZpc
set_option maxHeartbeats 40000000
set_option maxRecDepth 100000
set_option linter.unusedVariables false
set_option linter.unusedSimpArgs false
namespace Go.Proofs.Ytkmimamminddiaa.PB
open Go.RowKit Go.Proofs.ai.bX Go.Proofs.ai.dh Go.Proofs.ai.iL
attribute [local go_sem] dF dG eG eH cQ cR dH dI
mutual
def eM.j0:Nat ->Int ->Bool ->Int ->Int ->Int ->Int ->Int ->Int ->Int ->Int ->List Int ->List Int ->Option (List Int×Int)
 |0,_,_,_,_,_,_,_,_,_,_,_,_=>none
 |k+1,x4,x15,Cd,Ce,Cf,zN,zO,zP,Cg,Ch,zQ,tL=>if x15=true then (some (([]:List Int),21)) else (if (tL.length:Int)>(wrap64 (65535 - x4)) then (some (([]:List Int),23)) else ((some (([Cg,Ch]:List Int):List Int)).bind fun mJ=>(eM.l0 k (([Go.bits .or .u8 64 ((wrap64 (Int.tdiv x4 4)) % 256),Cd,((wrap64 (x4+(tL.length:Int))) / 256) % 256,(wrap64 (x4+(tL.length:Int))) % 256,(zN / 256) % 256,(zN) % 256,((Go.bits .or .u16 (IntKind.u16.wrap ((IntKind.u16.wrap (zO))*8192)) zP) / 256) % 256,(Go.bits .or .u16 (IntKind.u16.wrap ((IntKind.u16.wrap (zO))*8192)) zP) % 256,Ce,Cf,0,0]:List Int)) mJ (mJ.length:Int) 0 Cd Ce Cf zN zO zP Cg Ch zQ tL)))
def eM.l0:Nat ->List Int ->List Int ->Int ->Int ->Int ->Int ->Int ->Int ->Int ->Int ->Int ->Int ->List Int ->List Int ->Option (List Int×Int)
 |0,_,_,_,_,_,_,_,_,_,_,_,_,_,_=>none
 |k+1,x7,x88,x89,Xu,Cd,Ce,Cf,zN,zO,zP,Cg,Ch,zQ,tL=>if Xu<x89 then (if 0<=Xu then (if Xu<(x88.length:Int) then ((some (([((rd x88 Xu) / 16777216) % 256,((rd x88 Xu) / 65536) % 256,((rd x88 Xu) / 256) % 256,(rd x88 Xu) % 256]:List Int):List Int)).bind fun Gs=>(if x7.length+Gs.length<140737488355328 then (eM.l0 k (x7++Gs) x88 x89 (wrap64 (Xu+1)) Cd Ce Cf zN zO zP Cg Ch zQ tL) else (none))) else (none)) else (none)) else (if x7.length+zQ.length<140737488355328 then ((some (x7++zQ:List Int)).bind fun qa=>((oq.f k qa).bind fun xb=>(if 10<(qa.length:Int) then (if 11<(qa.length:Int) then ((some ((qa.set (10:Int).toNat ((xb / 256) % 256)).set (11:Int).toNat ((xb) % 256):List Int)).bind fun yJ=>(if yJ.length+tL.length<140737488355328 then (some ((yJ++tL),0)) else (none))) else (none)) else (none)))) else (none))
end
def eM.f (k:Nat) (aV:Int) (bh:Int) (bp:Int) (bw:Int) (dQ:Int) (dU:Int) (dZ:Int) (ee:Int) (bN:List Int) (cJ:List Int):Option (List Int×Int):=if ((bN.length:Int) % 4)=0 then (if (bN.length:Int)>40 then (eM.j0 k (wrap64 (20+(bN.length:Int))) true aV bh bp bw dQ dU dZ ee bN cJ) else (if dQ>7 then (eM.j0 k (wrap64 (20+(bN.length:Int))) true aV bh bp bw dQ dU dZ ee bN cJ) else (eM.j0 k (wrap64 (20+(bN.length:Int))) (decide (dU>8191)) aV bh bp bw dQ dU dZ ee bN cJ))) else (eM.j0 k (wrap64 (20+(bN.length:Int))) true aV bh bp bw dQ dU dZ ee bN cJ)
theorem eM.calls (k:Nat) (aV:Int) (bh:Int) (bp:Int) (bw:Int) (dQ:Int) (dU:Int) (dZ:Int) (ee:Int) (jw:Option Addr) (jx:Nat) (bN:List Int) (jy:Option Addr) (jz:Nat) (cJ:List Int) (r1:List Int) (r2:Int) (w:World) (tF:Kd.C (Kd.int .u8) w jw bN.length bN) (tG:bN.length<=jx) (tH:Kd.C (Kd.int .u8) w jy cJ.length cJ) (tI:cJ.length<=jz) (h:eM.f k aV bh bp bw dQ dU dZ ee bN cJ=some (r1,r2)):
  Calls Try.prog 71 #[.agg #[.int .u8 aV,.int .u8 bh,.int .u8 bp,.int .u16 bw,.int .u8 dQ,.int .u16 dU,.int .u32 dZ,.int .u32 ee,.slice jw bN.length jx,.slice jy cJ.length jz]] w fun e w'=>∃ o6:Value,e= .returned (.tuple #[o6,.int .i64 r2]) /\ Kd.R (Kd.int .u8) 5 w' w.heap.size (fun _=>True) o6 r1 /\ Below w.heap.size w w':=by
 have jb:=Try.underlying73;have Bi:=aa.mk tF;have IY:=aa.mk tG;clear tF tG;have Bj:=aa.mk tH;have IZ:=aa.mk tI;clear tH tI;have HB:=gj w;have H:(if ((bN.length:Int) % 4)=0 then (if (bN.length:Int)>40 then (eM.j0 k (wrap64 (20+(bN.length:Int))) true aV bh bp bw dQ dU dZ ee bN cJ) else (if dQ>7 then (eM.j0 k (wrap64 (20+(bN.length:Int))) true aV bh bp bw dQ dU dZ ee bN cJ) else (eM.j0 k (wrap64 (20+(bN.length:Int))) (decide (dU>8191)) aV bh bp bw dQ dU dZ ee bN cJ))) else (eM.j0 k (wrap64 (20+(bN.length:Int))) true aV bh bp bw dQ dU dZ ee bN cJ))=some (r1,r2):=h;clear h;have K9:=aa.mk H;clear H
 go_enter Try.func71,Try.ntmps71
 go_upto_region 2 with (first|((with_reducible refine aA (N:=1) rfl ?_);(try (refine eN (by rfl) ?_;dsimp only));refine aC ?hg (N:=1) ?hd (cs:= #[.int .u8 aV,.int .u8 bh,.int .u8 bp,.int .u16 bw,.int .u8 dQ,.int .u16 dU,.int .u32 dZ,.int .u32 ee,.slice jw bN.length jx,.slice jy cJ.length jz]) (t:=73) ?hr ?_;(case hd=>rfl);(case hg=>rfl);(case hr=>first|(go_simp;done)|(go_simp;rfl));intro j7 hg w3 bK hb;have aJ:=aa.mk (aq (bz HB) hb);have aQ:=aa.mk (bK);have bt:=aa.mk ((by rw [hg];exact (af (bz HB)):w.heap.size<=j7));have cr:=aa.mk ((by rw [hg];exact (af (bz HB)):w.heap.size<=j7));clear HB;have HB:=aJ;have cG:=aQ;have AqI:=bt;have AqJ:=cr;clear aJ aQ bt cr;clear hb bK hg;have pP:w3.cell? ⟨j7,0,none⟩=some (.int .u8 aV):=cz cG.out 0 rfl;have pQ:w3.cell? ⟨j7,1,none⟩=some (.int .u8 bh):=cz cG.out 1 rfl;have pR:w3.cell? ⟨j7,2,none⟩=some (.int .u8 bp):=cz cG.out 2 rfl;have pS:w3.cell? ⟨j7,3,none⟩=some (.int .u16 bw):=cz cG.out 3 rfl;have tU:w3.cell? ⟨j7,4,none⟩=some (.int .u8 dQ):=cz cG.out 4 rfl;have Gt:w3.cell? ⟨j7,5,none⟩=some (.int .u16 dU):=cz cG.out 5 rfl;have Gu:w3.cell? ⟨j7,6,none⟩=some (.int .u32 dZ):=cz cG.out 6 rfl;have Gv:w3.cell? ⟨j7,7,none⟩=some (.int .u32 ee):=cz cG.out 7 rfl;have Gw:w3.cell? ⟨j7,8,none⟩=some (.slice jw bN.length jx):=cz cG.out 8 rfl;have Gx:w3.cell? ⟨j7,9,none⟩=some (.slice jy cJ.length jz):=cz cG.out 9 rfl;have pT:=ae cG.out 0;have pU:=ae cG.out 1;have pV:=ae cG.out 2;have pW:=ae cG.out 3;have tV:=ae cG.out 4;have Gy:=ae cG.out 5;have Gz:=ae cG.out 6;have GA:=ae cG.out 7;have GD:=ae cG.out 8;have GF:=ae cG.out 9))
 (try simp only [Act.put,List.setIfInBounds_toArray,List.set_cons_zero,List.set_cons_succ])
 go_cut [15] (fun v15 wc=>∃ (kq:Nat) (MQ:Bool),v15= .bool MQ /\ aa (eM.j0 kq (wrap64 (20+(bN.length:Int))) MQ aV bh bp bw dQ dU dZ ee bN cJ=some (r1,r2)) /\ aa (kq<=k) /\ aa (wc.heap[j7]?=some (.cells #[.int .u8 aV,.int .u8 bh,.int .u8 bp,.int .u16 bw,.int .u8 dQ,.int .u16 dU,.int .u32 dZ,.int .u32 ee,(.slice jw bN.length jx),(.slice jy cJ.length jz)] 73 (0,0))) /\ aa (Below w.heap.size w wc))
 case first=>
  have H:=K9.out;clear K9
  by_cases c5:((bN.length:Int) % 4)=0
  ·rw [au c5] at H
   have mS:(((bN.length:Int) % 4)==0)=true:=fH c5;have qz:(((bN.length:Int) % 4) !=0)=false:=kO c5;clear c5
   (first|rw [mS]|(simp only [jk,mo];rw [mS])|skip)
   by_cases c6:(bN.length:Int)>40
   ·rw [au c6] at H
    have sG:decide (40<(bN.length:Int))=true:=bS c6;have Il:decide (40<bN.length)=true:=bS (by omega);clear c6;have H':=aa.mk H;clear H;have Aiq:=rC cG.out;have Air:=ae cG.out
    go_wp2
    repeat (go_quiet (fail);try go_wp2)
    go_meet
    case rel=>exact ⟨_,(true),(by first|rfl|(simp;done)|(simp [*];done)),H',⟨by first|omega|exact Nat.le_refl _⟩,⟨kz cG⟩,⟨bz HB⟩⟩
   ·rw [ax c6] at H
    have sG:decide (40<(bN.length:Int))=false:=gO c6;have Il:decide (40<bN.length)=false:=gO (by omega);clear c6
    by_cases c8:dQ>7
    ·rw [au c8] at H
     have nX:decide (7<dQ)=true:=bS c8;clear c8;have H':=aa.mk H;clear H;have MR:=rC cG.out;have MS:=ae cG.out
     go_wp2
     repeat (go_quiet (fail);try go_wp2)
     go_meet
     case rel=>exact ⟨_,(true),(by first|rfl|(simp;done)|(simp [*];done)),H',⟨by first|omega|exact Nat.le_refl _⟩,⟨kz cG⟩,⟨bz HB⟩⟩
    ·rw [ax c8] at H
     have nX:decide (7<dQ)=false:=gO c8;clear c8;have H':=aa.mk H;clear H;have Rm:=rC cG.out;have Rn:=ae cG.out
     go_wp2
     repeat (go_quiet (fail);try go_wp2)
     go_meet
     case rel=>exact ⟨_,(decide (dU>8191)),(by first|rfl|(simp;done)|(simp [*];done)),H',⟨by first|omega|exact Nat.le_refl _⟩,⟨kz cG⟩,⟨bz HB⟩⟩
  ·rw [ax c5] at H
   have mS:(((bN.length:Int) % 4)==0)=false:=fc c5;have qz:(((bN.length:Int) % 4) !=0)=true:=lA c5
   (first|rw [mS]|(simp only [jk,mo];rw [mS])|skip)
   have H':=aa.mk H;clear H;have Afr:=rC cG.out;have Afs:=ae cG.out
   go_wp2
   repeat (go_quiet (fail);try go_wp2)
   go_meet
   case rel=>exact ⟨_,(true),(by first|rfl|(simp;done)|(simp [*];done)),H',⟨by first|omega|exact Nat.le_refl _⟩,⟨kz cG⟩,⟨bz HB⟩⟩
 case rest=>
  clear K9
  try clear pP
  try clear pQ
  try clear pR
  try clear pS
  try clear tU
  try clear Gt
  try clear Gu
  try clear Gv
  try clear Gw
  try clear Gx
  try clear pT
  try clear pU
  try clear pV
  try clear pW
  try clear tV
  try clear Gy
  try clear Gz
  try clear GA
  try clear GD
  try clear GF
  obtain ⟨kq,MQ,rfl,HA,HJ1,cG,HB⟩:=hcut
  cases kq with
  |zero=>exact absurd HA.out (by simp [eM.j0])
  |succ NY=>
   have H:=HA.out;clear HA;simp only [eM.j0] at H
   by_cases uO:MQ=true
   ·subst uO
    have H1:(some (([]:List Int),21))=some (r1,r2):=by rw [au rfl] at H;exact H
    clear H;have H:=H1;clear H1;simp only [Option.some.injEq,Prod.mk.injEq] at H
    obtain ⟨rfl,rfl⟩:=H
    go_wp2
    repeat (go_quiet (fail);try go_wp2)
    go_ret2
    exact ⟨_,by first|rfl|(simp [aj,ak]<;>rfl)|(simp [*,aj,ak]<;>rfl),by first|exact Kd.cl _ _ _ _ _|exact Kd.ju _ _ _ _ _|exact Kd.jv _ _ _ _ _|exact Kd.jr _ _ _ _ _|exact Kd.js _ _ _ _ _,bz HB⟩
   ·replace uO:=xP uO
    subst uO;have H1:(if (cJ.length:Int)>(wrap64 (65535 - (wrap64 (20+(bN.length:Int))))) then (some (([]:List Int),23)) else ((some (([dZ,ee]:List Int):List Int)).bind fun mJ=>(eM.l0 NY (([Go.bits .or .u8 64 ((wrap64 (Int.tdiv (wrap64 (20+(bN.length:Int))) 4)) % 256),aV,((wrap64 ((wrap64 (20+(bN.length:Int)))+(cJ.length:Int))) / 256) % 256,(wrap64 ((wrap64 (20+(bN.length:Int)))+(cJ.length:Int))) % 256,(bw / 256) % 256,(bw) % 256,((Go.bits .or .u16 (IntKind.u16.wrap ((IntKind.u16.wrap (dQ))*8192)) dU) / 256) % 256,(Go.bits .or .u16 (IntKind.u16.wrap ((IntKind.u16.wrap (dQ))*8192)) dU) % 256,bh,bp,0,0]:List Int)) mJ (mJ.length:Int) 0 aV bh bp bw dQ dU dZ ee bN cJ)))=some (r1,r2):=by rw [ax (show ¬ (false=true) by decide)] at H;exact H
    clear H;have H:=H1;clear H1
    by_cases NL:(cJ.length:Int)>(wrap64 (65535 - (wrap64 (20+(bN.length:Int)))))
    ·rw [au NL] at H
     have P2:decide ((wrap64 (65535 - (wrap64 (20+(bN.length:Int)))))<(cJ.length:Int))=true:=bS NL;clear NL;simp only [Option.some.injEq,Prod.mk.injEq] at H
     obtain ⟨rfl,rfl⟩:=H;have Aft:=rC cG.out;have Afu:=ae cG.out
     go_wp2
     repeat (go_quiet (fail);try go_wp2)
     go_ret2
     exact ⟨_,by first|rfl|(simp [aj,ak]<;>rfl)|(simp [*,aj,ak]<;>rfl),by first|exact Kd.cl _ _ _ _ _|exact Kd.ju _ _ _ _ _|exact Kd.jv _ _ _ _ _|exact Kd.jr _ _ _ _ _|exact Kd.js _ _ _ _ _,bz HB⟩
    ·rw [ax NL] at H
     have P2:decide ((wrap64 (65535 - (wrap64 (20+(bN.length:Int)))))<(cJ.length:Int))=false:=gO NL;clear NL;obtain ⟨AmX,Ro⟩:∃ y_:List Int,y_=(([Go.bits .or .u8 64 ((wrap64 (Int.tdiv (wrap64 (20+(bN.length:Int))) 4)) % 256),aV,((wrap64 ((wrap64 (20+(bN.length:Int)))+(cJ.length:Int))) / 256) % 256,(wrap64 ((wrap64 (20+(bN.length:Int)))+(cJ.length:Int))) % 256,(bw / 256) % 256,(bw) % 256,((Go.bits .or .u16 (IntKind.u16.wrap ((IntKind.u16.wrap (dQ))*8192)) dU) / 256) % 256,(Go.bits .or .u16 (IntKind.u16.wrap ((IntKind.u16.wrap (dQ))*8192)) dU) % 256,bh,bp,0,0]:List Int)):=⟨_,rfl⟩
     rw [<- Ro] at H
     have Xv:=aa.mk Ro;clear Ro;obtain ⟨mJ,Rp⟩:∃ y_:List Int,y_=(([dZ,ee]:List Int)):=⟨_,rfl⟩
     rw [<- Rp] at H
     have EY:=aa.mk Rp;clear Rp;have H':=aa.mk H;clear H;have Rq:=rC cG.out;have Rs:=ae cG.out
     go_wp2_with (first|((with_reducible refine aA (N:=88) rfl ?_);(try (refine eN (by rfl) ?_;dsimp only));refine Kd.qq (Kd.int .u32) _ 27 ?hg (N:=88) ?hd (xs:=([dZ,ee]:List Int)) (inner:=[.int .u32 dZ,.int .u32 ee]) (ok:=fun _=>True) (rq:=fun _=>True) ?hr ?hp (fun _ hk=>hk) trivial (Below.refl _ _) (Nat.le_refl _) (by simp) ?_;(case hd=>rfl);(case hg=>rfl);(case hr=>first|(go_simp;done)|(go_simp;rfl));(case hp=>exact (cI.one (show Kd.M (Kd.int .u32) _ _ _ dZ [.int .u32 dZ] from rfl) (cI.one (show Kd.M (Kd.int .u32) _ _ _ ee [.int .u32 ee] from rfl) (cI.none _ _))));intro Afv w19 xd hb gJ iM;clear gJ iM;(first|rw [<- EY.out] at xd|(simp only [Int.reduceToNat] at xd;rw [<- EY.out] at xd));have aJ:=aa.mk (Kd.fU (Kd.rz yz) hb);have aQ:=aa.mk (Kd.bP xd (af (bz HB)));have bt:=aa.mk (bn (kz cG) hb);have cr:=aa.mk (aq (bz HB) hb);clear yz;clear cG;clear HB;have yz:=aJ;have EZ:=aQ;have cG:=bt;have HB:=cr;clear aJ aQ bt cr;clear hb xd;obtain ⟨AaW,AaX,Rt⟩:=Kd.da EZ.out;subst Rt))
     repeat (go_quiet (first|((with_reducible refine aA (N:=88) rfl ?_);(try (refine eN (by rfl) ?_;dsimp only));refine Kd.qq (Kd.int .u32) _ 27 ?hg (N:=88) ?hd (xs:=([dZ,ee]:List Int)) (inner:=[.int .u32 dZ,.int .u32 ee]) (ok:=fun _=>True) (rq:=fun _=>True) ?hr ?hp (fun _ hk=>hk) trivial (Below.refl _ _) (Nat.le_refl _) (by simp) ?_;(case hd=>rfl);(case hg=>rfl);(case hr=>first|(go_simp;done)|(go_simp;rfl));(case hp=>exact (cI.one (show Kd.M (Kd.int .u32) _ _ _ dZ [.int .u32 dZ] from rfl) (cI.one (show Kd.M (Kd.int .u32) _ _ _ ee [.int .u32 ee] from rfl) (cI.none _ _))));intro Afv w19 xd hb gJ iM;clear gJ iM;(first|rw [<- EY.out] at xd|(simp only [Int.reduceToNat] at xd;rw [<- EY.out] at xd));have aJ:=aa.mk (Kd.fU (Kd.rz yz) hb);have aQ:=aa.mk (Kd.bP xd (af (bz HB)));have bt:=aa.mk (bn (kz cG) hb);have cr:=aa.mk (aq (bz HB) hb);clear yz;clear cG;clear HB;have yz:=aJ;have EZ:=aQ;have cG:=bt;have HB:=cr;clear aJ aQ bt cr;clear hb xd;obtain ⟨AaW,AaX,Rt⟩:=Kd.da EZ.out;subst Rt));try go_wp2_with (first|((with_reducible refine aA (N:=83) rfl ?_);(try (refine eN (by rfl) ?_;dsimp only));refine Kd.qq (Kd.int .u8) _ 5 ?hg (N:=83) ?hd (xs:=([Go.bits .or .u8 64 ((wrap64 (Int.tdiv (wrap64 (20+(bN.length:Int))) 4)) % 256),aV,((wrap64 ((wrap64 (20+(bN.length:Int)))+(cJ.length:Int))) / 256) % 256,(wrap64 ((wrap64 (20+(bN.length:Int)))+(cJ.length:Int))) % 256,(bw / 256) % 256,(bw) % 256,((Go.bits .or .u16 (IntKind.u16.wrap ((IntKind.u16.wrap (dQ))*8192)) dU) / 256) % 256,(Go.bits .or .u16 (IntKind.u16.wrap ((IntKind.u16.wrap (dQ))*8192)) dU) % 256,bh,bp,0,0]:List Int)) (inner:=[.int .u8 (Go.bits .or .u8 64 ((wrap64 (Int.tdiv (wrap64 (20+(bN.length:Int))) 4)) % 256)),.int .u8 aV,.int .u8 (((wrap64 ((wrap64 (20+(bN.length:Int)))+(cJ.length:Int))) / 256) % 256),.int .u8 ((wrap64 ((wrap64 (20+(bN.length:Int)))+(cJ.length:Int))) % 256),.int .u8 ((bw / 256) % 256),.int .u8 ((bw) % 256),.int .u8 (((Go.bits .or .u16 (IntKind.u16.wrap ((IntKind.u16.wrap (dQ))*8192)) dU) / 256) % 256),.int .u8 ((Go.bits .or .u16 (IntKind.u16.wrap ((IntKind.u16.wrap (dQ))*8192)) dU) % 256),.int .u8 bh,.int .u8 bp,.int .u8 0,.int .u8 0]) (ok:=fun _=>True) (rq:=fun _=>True) ?hr ?hp (fun _ hk=>hk) trivial (Below.refl _ _) (Nat.le_refl _) (by simp) ?_;(case hd=>rfl);(case hg=>rfl);(case hr=>first|(go_simp;done)|(go_simp;simp only [IntKind.wrap_u8,IntKind.wrap_u16,IntKind.wrap_u32];done)|(go_simp;rfl));(case hp=>exact (cI.one (show Kd.M (Kd.int .u8) _ _ _ (Go.bits .or .u8 64 ((wrap64 (Int.tdiv (wrap64 (20+(bN.length:Int))) 4)) % 256)) [.int .u8 (Go.bits .or .u8 64 ((wrap64 (Int.tdiv (wrap64 (20+(bN.length:Int))) 4)) % 256))] from rfl) (cI.one (show Kd.M (Kd.int .u8) _ _ _ aV [.int .u8 aV] from rfl) (cI.one (show Kd.M (Kd.int .u8) _ _ _ (((wrap64 ((wrap64 (20+(bN.length:Int)))+(cJ.length:Int))) / 256) % 256) [.int .u8 (((wrap64 ((wrap64 (20+(bN.length:Int)))+(cJ.length:Int))) / 256) % 256)] from rfl) (cI.one (show Kd.M (Kd.int .u8) _ _ _ ((wrap64 ((wrap64 (20+(bN.length:Int)))+(cJ.length:Int))) % 256) [.int .u8 ((wrap64 ((wrap64 (20+(bN.length:Int)))+(cJ.length:Int))) % 256)] from rfl) (cI.one (show Kd.M (Kd.int .u8) _ _ _ ((bw / 256) % 256) [.int .u8 ((bw / 256) % 256)] from rfl) (cI.one (show Kd.M (Kd.int .u8) _ _ _ ((bw) % 256) [.int .u8 ((bw) % 256)] from rfl) (cI.one (show Kd.M (Kd.int .u8) _ _ _ (((Go.bits .or .u16 (IntKind.u16.wrap ((IntKind.u16.wrap (dQ))*8192)) dU) / 256) % 256) [.int .u8 (((Go.bits .or .u16 (IntKind.u16.wrap ((IntKind.u16.wrap (dQ))*8192)) dU) / 256) % 256)] from rfl) (cI.one (show Kd.M (Kd.int .u8) _ _ _ ((Go.bits .or .u16 (IntKind.u16.wrap ((IntKind.u16.wrap (dQ))*8192)) dU) % 256) [.int .u8 ((Go.bits .or .u16 (IntKind.u16.wrap ((IntKind.u16.wrap (dQ))*8192)) dU) % 256)] from rfl) (cI.one (show Kd.M (Kd.int .u8) _ _ _ bh [.int .u8 bh] from rfl) (cI.one (show Kd.M (Kd.int .u8) _ _ _ bp [.int .u8 bp] from rfl) (cI.one (show Kd.M (Kd.int .u8) _ _ _ 0 [.int .u8 0] from rfl) (cI.one (show Kd.M (Kd.int .u8) _ _ _ 0 [.int .u8 0] from rfl) (cI.none _ _))))))))))))));intro AtB qM Ru hb gJ iM;clear gJ iM;(first|rw [<- Xv.out] at Ru|(simp only [Int.reduceToNat] at Ru;rw [<- Xv.out] at Ru));have aJ:=aa.mk (Kd.bP Ru (af (bz HB)));have aQ:=aa.mk (bn (kz cG) hb);have bt:=aa.mk (aq (bz HB) hb);clear cG;clear HB;have yz:=aJ;have cG:=aQ;have HB:=bt;clear aJ aQ bt;clear hb Ru;have MT:qM.cell? ⟨j7,0,none⟩=some (.int .u8 aV):=cz cG.out 0 rfl;have MU:qM.cell? ⟨j7,1,none⟩=some (.int .u8 bh):=cz cG.out 1 rfl;have MV:qM.cell? ⟨j7,2,none⟩=some (.int .u8 bp):=cz cG.out 2 rfl;have MW:qM.cell? ⟨j7,3,none⟩=some (.int .u16 bw):=cz cG.out 3 rfl;have UB:qM.cell? ⟨j7,4,none⟩=some (.int .u8 dQ):=cz cG.out 4 rfl;have UC:qM.cell? ⟨j7,5,none⟩=some (.int .u16 dU):=cz cG.out 5 rfl;have UD:qM.cell? ⟨j7,6,none⟩=some (.int .u32 dZ):=cz cG.out 6 rfl;have UE:qM.cell? ⟨j7,7,none⟩=some (.int .u32 ee):=cz cG.out 7 rfl;have UF:qM.cell? ⟨j7,8,none⟩=some (.slice jw bN.length jx):=cz cG.out 8 rfl;have UG:qM.cell? ⟨j7,9,none⟩=some (.slice jy cJ.length jz):=cz cG.out 9 rfl;have MX:=ae cG.out 0;have MY:=ae cG.out 1;have MZ:=ae cG.out 2;have M0:=ae cG.out 3;have UH:=ae cG.out 4;have UI:=ae cG.out 5;have UJ:=ae cG.out 6;have UK:=ae cG.out 7;have UL:=ae cG.out 8;have UM:=ae cG.out 9)|((with_reducible refine aA (N:=88) rfl ?_);(try (refine eN (by rfl) ?_;dsimp only));refine Kd.qq (Kd.int .u32) _ 27 ?hg (N:=88) ?hd (xs:=([dZ,ee]:List Int)) (inner:=[.int .u32 dZ,.int .u32 ee]) (ok:=fun _=>True) (rq:=fun _=>True) ?hr ?hp (fun _ hk=>hk) trivial (Below.refl _ _) (Nat.le_refl _) (by simp) ?_;(case hd=>rfl);(case hg=>rfl);(case hr=>first|(go_simp;done)|(go_simp;rfl));(case hp=>exact (cI.one (show Kd.M (Kd.int .u32) _ _ _ dZ [.int .u32 dZ] from rfl) (cI.one (show Kd.M (Kd.int .u32) _ _ _ ee [.int .u32 ee] from rfl) (cI.none _ _))));intro Afv w19 xd hb gJ iM;clear gJ iM;(first|rw [<- EY.out] at xd|(simp only [Int.reduceToNat] at xd;rw [<- EY.out] at xd));have aJ:=aa.mk (Kd.fU (Kd.rz yz) hb);have aQ:=aa.mk (Kd.bP xd (af (bz HB)));have bt:=aa.mk (bn (kz cG) hb);have cr:=aa.mk (aq (bz HB) hb);clear yz;clear cG;clear HB;have yz:=aJ;have EZ:=aQ;have cG:=bt;have HB:=cr;clear aJ aQ bt cr;clear hb xd;obtain ⟨AaW,AaX,Rt⟩:=Kd.da EZ.out;subst Rt)))
     go_loopg [7,90] NY (fun kq v7 v90 w'=>∃ (yj:List Int) (jL:Int),v90= .int .i64 jL /\ aa (eM.l0 kq yj mJ (mJ.length:Int) jL aV bh bp bw dQ dU dZ ee bN cJ=some (r1,r2)) /\ aa (kq<=NY) /\ aa (Kd.R (Kd.int .u8) 5 w' w.heap.size (fun _=>True) v7 yj) /\ aa (Kd.R (Kd.int .u32) 27 w' w.heap.size (fun _=>True) (.slice AaW mJ.length AaX) mJ) /\ aa (w'.heap[j7]?=some (.cells #[.int .u8 aV,.int .u8 bh,.int .u8 bp,.int .u16 bw,.int .u8 dQ,.int .u16 dU,.int .u32 dZ,.int .u32 ee,(.slice jw bN.length jx),(.slice jy cJ.length jz)] 73 (0,0))) /\ aa (Below w.heap.size w w'))
     case atStart=>exact ⟨(AmX),(0),(by first|rfl|(simp;done)|(simp [*];done)),H',⟨Nat.le_refl _⟩,⟨Kd.rz yz⟩,⟨Kd.rz EZ⟩,⟨kz cG⟩,⟨bz HB⟩⟩
     case round=>
      clear H'
      try clear uO
      try clear NL
      try clear P2
      try clear Rq
      try clear MT
      try clear MU
      try clear MV
      try clear MW
      try clear UB
      try clear UC
      try clear UD
      try clear UE
      try clear UF
      try clear UG
      try clear pP
      try clear pQ
      try clear pR
      try clear pS
      try clear tU
      try clear Gt
      try clear Gu
      try clear Gv
      try clear Gw
      try clear Gx
      try clear Rs
      try clear MX
      try clear MY
      try clear MZ
      try clear M0
      try clear UH
      try clear UI
      try clear UJ
      try clear UK
      try clear UL
      try clear UM
      try clear pT
      try clear pU
      try clear pV
      try clear pW
      try clear tV
      try clear Gy
      try clear Gz
      try clear GA
      try clear GD
      try clear GF
      obtain ⟨yj,jL,rfl,HA,WM,BB,lU,cG,HB⟩:=hrel
      cases gk with
      |zero=>exact absurd HA.out (by simp [eM.l0])
      |succ k2=>
       have H:=HA.out;clear HA;simp only [eM.l0] at H
       by_cases Ic:jL<(mJ.length:Int)
       ·rw [au Ic] at H
        have PV:decide (jL<(mJ.length:Int))=true:=bS Ic;clear Ic
        by_cases Ix:0<=jL
        ·rw [au Ix] at H
         have Qi:decide (0<=jL)=true:=bS Ix;clear Ix
         by_cases Mw:jL<(mJ.length:Int)
         ·rw [au Mw] at H
          have Wy:decide (jL<(mJ.length:Int))=true:=bS Mw;clear Mw;obtain ⟨Gs,Jh⟩:∃ y_:List Int,y_=(([((rd mJ jL) / 16777216) % 256,((rd mJ jL) / 65536) % 256,((rd mJ jL) / 256) % 256,(rd mJ jL) % 256]:List Int)):=⟨_,rfl⟩
          replace H:(if yj.length+Gs.length<140737488355328 then (eM.l0 k2 (yj++Gs) mJ (mJ.length:Int) (wrap64 (jL+1)) aV bh bp bw dQ dU dZ ee bN cJ) else (none))=some (r1,r2):=by first|(rw [Jh];with_reducible exact H)|(have kP:=(bA _ _).symm.trans H;rw [Jh];with_reducible exact kP)|(have kP:=(bA _ _).symm.trans H;with_reducible exact kP)|with_reducible exact H|(rw [Jh];exact H)|exact H
          have Xw:=aa.mk Jh;clear Jh
          by_cases MF:yj.length+Gs.length<140737488355328
          ·rw [au MF] at H
           have QE:=aa.mk MF;clear MF;obtain ⟨Afw,Ji⟩:∃ y_:List Int,y_=(yj++Gs):=⟨_,rfl⟩
           replace H:(eM.l0 k2 Afw mJ (mJ.length:Int) (wrap64 (jL+1)) aV bh bp bw dQ dU dZ ee bN cJ)=some (r1,r2):=by first|(rw [Ji];with_reducible exact H)|(have kP:=(bA _ _).symm.trans H;rw [Ji];with_reducible exact kP)|(have kP:=(bA _ _).symm.trans H;with_reducible exact kP)|with_reducible exact H|(rw [Ji];exact H)|exact H
           have Afx:=aa.mk Ji;clear Ji;have H':=aa.mk H;clear H;have AaY:0<=(jL:Int):=gD;have AaZ:jL<(mJ.length:Int):=gD;obtain ⟨AqK,AmY,Ais⟩:=Kd.dB (Kd.av lU.out).2.2 jL AaY AaZ
           cases AmY
           replace AaY:=eq_true AaY;replace AaZ:=eq_true AaZ
           go_wp2_with (first|((with_reducible refine aA (N:=106) rfl ?_);(try (refine eN (by rfl) ?_;dsimp only));refine Kd.qq (Kd.int .u8) _ 5 ?hg (N:=106) ?hd (xs:=([((rd mJ jL) / 16777216) % 256,((rd mJ jL) / 65536) % 256,((rd mJ jL) / 256) % 256,(rd mJ jL) % 256]:List Int)) (inner:=[.int .u8 (((rd mJ jL) / 16777216) % 256),.int .u8 (((rd mJ jL) / 65536) % 256),.int .u8 (((rd mJ jL) / 256) % 256),.int .u8 ((rd mJ jL) % 256)]) (ok:=fun _=>True) (rq:=fun _=>True) ?hr ?hp (fun _ hk=>hk) trivial (Below.refl _ _) (Nat.le_refl _) (by simp) ?_;(case hd=>rfl);(case hg=>rfl);(case hr=>first|(go_simp;done)|(go_simp;simp only [IntKind.wrap_u8,IntKind.wrap_u16,IntKind.wrap_u32];done)|(go_simp;rfl));(case hp=>exact (cI.one (show Kd.M (Kd.int .u8) _ _ _ (((rd mJ jL) / 16777216) % 256) [.int .u8 (((rd mJ jL) / 16777216) % 256)] from rfl) (cI.one (show Kd.M (Kd.int .u8) _ _ _ (((rd mJ jL) / 65536) % 256) [.int .u8 (((rd mJ jL) / 65536) % 256)] from rfl) (cI.one (show Kd.M (Kd.int .u8) _ _ _ (((rd mJ jL) / 256) % 256) [.int .u8 (((rd mJ jL) / 256) % 256)] from rfl) (cI.one (show Kd.M (Kd.int .u8) _ _ _ ((rd mJ jL) % 256) [.int .u8 ((rd mJ jL) % 256)] from rfl) (cI.none _ _))))));intro AtD w26 Oj hb gJ iM;clear gJ iM;(first|rw [<- Xw.out] at Oj|(simp only [Int.reduceToNat] at Oj;rw [<- Xw.out] at Oj));have aJ:=aa.mk (Kd.mU (Kd.rz BB) (Kd.kf Oj) hb);have aQ:=aa.mk (Kd.fU (Kd.rz lU) hb);have bt:=aa.mk (Kd.bP (Kd.ry Oj (Kd.oL (Kd.rz BB))) (af (bz HB)));have cr:=aa.mk (bn (kz cG) hb);have uz:=aa.mk (aq (bz HB) hb);clear BB;clear lU;clear cG;clear HB;have BB:=aJ;have lU:=aQ;have E3:=bt;have cG:=cr;have HB:=uz;clear aJ aQ bt cr uz;clear hb Oj;obtain ⟨AmZ,Am0,Am1⟩:=Kd.da E3.out;subst Am1)|((with_reducible refine fo (b:= .append) (xs:= #[.tmp 94,.tmp 106]) rfl ?_);(try (refine eN (by rfl) ?_;dsimp only));at_builtin;refine Kd.gC (Kd.int .u8) (w0:=w) w.heap.size rfl (.tmp 94) (.tmp 106) 23 5 (.int .u8 0) 1 rfl Try.underlying23 gB rfl (by decide) (by omega) u7 yj Gs _ _ _ (fun k_=>some k_≠(.slice AmZ Gs.length Am0:Value).ownBlock) (fun _=>False) rfl rfl ?aO ?aR (fun _ _ h=>h) (fun _ h=>h.elim) ?aF ?aB ?aS ?aL ?_;(case aR=>repeat (first|exact (Kd.av E3.out).2.2|(with_reducible refine Kd.fD ?_ _)|(with_reducible refine Kd.fj ?_ _)|(with_reducible refine Kd.gP ?_)));(case aB=>exact bz HB);(case aF=>exact (fun k_ hk=>Kd.mN (Kd.oL (Kd.rz E3)) k_ hk));(case aO=>exact (by (with_reducible repeat (first|apply Kd.eX|apply Kd.eT|apply Kd.eY));exact Kd.dm BB.out (fun _ hk=>hk.2)));(case aS=>exact (af (bz HB)));(case aL=>have:=QE.out;omega);intro AtE w28 ho hb hg hat;rw [<- Afx.out] at ho;have aJ:=aa.mk (Kd.uL (Kd.rz lU) (Kd.rS (Kd.rz BB)) (by decide) hg);have aQ:=aa.mk (gV (kz cG) hg (Kd.nw BB.out cG.out (by decide)));have bt:=aa.mk (Kd.nV (ok:=(fun _=>True)) (Kd.rz E3) hg hat);have cr:=aa.mk (hb);have uz:=aa.mk (ho);clear lU;clear cG;clear E3;clear HB;clear BB;have lU:=aJ;have cG:=aQ;have E3:=bt;have HB:=cr;have Afy:=uz;clear aJ aQ bt cr uz;clear ho hb hg hat))
           go_roundg k2
           case measure=>have:=HJ1.out;have:=WM.out;omega
           case rel=>exact ⟨(Afw),(wrap64 (jL+1)),(by first|rfl|(simp;done)|(simp [*];done)),H',⟨by have:=HJ1.out;have:=WM.out;omega⟩,⟨by (with_reducible repeat (first|apply Kd.eX|apply Kd.eT|apply Kd.eY));exact Kd.dm Afy.out (fun _ hk=>trivial)⟩,⟨Kd.rz lU⟩,⟨kz cG⟩,⟨bz HB⟩⟩
          ·rw [ax MF] at H
           cases H
         ·rw [ax Mw] at H
          cases H
        ·rw [ax Ix] at H
         cases H
       ·rw [ax Ic] at H
        have PV:decide (jL<(mJ.length:Int))=false:=gO Ic;clear Ic
        by_cases c30:yj.length+bN.length<140737488355328
        ·rw [au c30] at H
         have Afz:=aa.mk c30;clear c30;obtain ⟨qa,Jj⟩:∃ y_:List Int,y_=(yj++bN):=⟨_,rfl⟩
         replace H:((oq.f k2 qa).bind fun xb=>(if 10<(qa.length:Int) then (if 11<(qa.length:Int) then ((some ((qa.set (10:Int).toNat ((xb / 256) % 256)).set (11:Int).toNat ((xb) % 256):List Int)).bind fun yJ=>(if yJ.length+cJ.length<140737488355328 then (some ((yJ++cJ),0)) else (none))) else (none)) else (none)))=some (r1,r2):=by first|(rw [Jj];with_reducible exact H)|(have kP:=(bA _ _).symm.trans H;rw [Jj];with_reducible exact kP)|(have kP:=(bA _ _).symm.trans H;with_reducible exact kP)|with_reducible exact H|(rw [Jj];exact H)|exact H
         have AfA:=aa.mk Jj;clear Jj;replace H:=cZ H;obtain ⟨xb,Rv,H⟩:=H;replace H:(if 10<(qa.length:Int) then (if 11<(qa.length:Int) then ((some ((qa.set (10:Int).toNat ((xb / 256) % 256)).set (11:Int).toNat ((xb) % 256):List Int)).bind fun yJ=>(if yJ.length+cJ.length<140737488355328 then (some ((yJ++cJ),0)) else (none))) else (none)) else (none))=some (r1,r2):=H;have A31:=aa.mk Rv;clear Rv
         by_cases KN:10<(qa.length:Int)
         ·rw [au KN] at H
          have Ad5:decide (10<(qa.length:Int))=true:=bS KN;have Ad6:decide (10<qa.length)=true:=bS (by omega);clear KN;obtain ⟨AfB,Rw⟩:∃ y_:List Int,y_=(qa.set (10:Int).toNat ((xb / 256) % 256)):=⟨_,rfl⟩
          rw [<- Rw] at H
          have AfC:=aa.mk Rw;clear Rw
          by_cases c34:11<(qa.length:Int)
          ·rw [au c34] at H
           have AqL:decide (11<(qa.length:Int))=true:=bS c34;have AqM:decide (11<qa.length)=true:=bS (by omega);clear c34;obtain ⟨yJ,Jk⟩:∃ y_:List Int,y_=(AfB.set (11:Int).toNat ((xb) % 256)):=⟨_,rfl⟩
           replace H:(if yJ.length+cJ.length<140737488355328 then (some ((yJ++cJ),0)) else (none))=some (r1,r2):=by first|(rw [Jk];with_reducible exact H)|(have kP:=(bA _ _).symm.trans H;rw [Jk];with_reducible exact kP)|(have kP:=(bA _ _).symm.trans H;with_reducible exact kP)|with_reducible exact H|(rw [Jk];exact H)|exact H
           have AfD:=aa.mk Jk;clear Jk
           by_cases c36:yJ.length+cJ.length<140737488355328
           ·rw [au c36] at H
            have AfE:=aa.mk c36;clear c36;obtain ⟨Am3,Jl⟩:∃ y_:List Int,y_=(yJ++cJ):=⟨_,rfl⟩
            replace H:(some (Am3,0))=some (r1,r2):=by first|(rw [Jl];with_reducible exact H)|(have kP:=(bA _ _).symm.trans H;rw [Jl];with_reducible exact kP)|(have kP:=(bA _ _).symm.trans H;with_reducible exact kP)|with_reducible exact H|(rw [Jl];exact H)|exact H
            have AfF:=aa.mk Jl;clear Jl;simp only [Option.some.injEq,Prod.mk.injEq] at H
            obtain ⟨rfl,rfl⟩:=H;have AfG:=rC cG.out;have AfH:=ae cG.out
            go_wp2_with (first|((with_reducible refine fo (b:= .append) (xs:= #[.tmp 109,.tmp 111]) rfl ?_);(try (refine eN (by rfl) ?_;dsimp only));at_builtin;refine Kd.gC (Kd.int .u8) (w0:=w) w.heap.size rfl (.tmp 109) (.tmp 111) 23 5 (.int .u8 0) 1 rfl Try.underlying23 gB rfl (by decide) (by omega) u7 yj bN _ _ _ (fun _=>True) (fun _=>False) rfl rfl ?aO ?aR (fun _ _ h=>h) (fun _ h=>h.elim) ?aF ?aB ?aS ?aL ?_;(case aR=>exact Kd.aU Bi.out (bz HB));(case aB=>exact bz HB);(case aF=>exact (fun _ _=>trivial));(case aO=>exact (Kd.rz BB));(case aS=>exact (af (bz HB)));(case aL=>have:=Afz.out;omega);intro AtF w38 ho hb hg hat;rw [<- AfA.out] at ho;have aJ:=aa.mk (Kd.uL (Kd.rz lU) (Kd.rS (Kd.rz BB)) (by decide) hg);have aQ:=aa.mk (gV (kz cG) hg (Kd.nw BB.out cG.out (by decide)));have bt:=aa.mk (hb);have cr:=aa.mk (ho);clear lU;clear cG;clear HB;clear BB;have lU:=aJ;have cG:=aQ;have HB:=bt;have jX:=cr;clear aJ aQ bt cr;clear ho hb hg hat;obtain ⟨GG,zR,Ln⟩:=Kd.da jX.out;subst Ln)|(go_at_call 90;(with_reducible refine (oq.calls k2 _ _ qa xb _ ?aG ?aH A31.out).mono ?_);(case aG=>repeat (first|exact (Kd.av jX.out).2.2|(with_reducible refine Kd.fD ?_ _)|(with_reducible refine Kd.fj ?_ _)|(with_reducible refine Kd.gP ?_)));(case aH=>exact (Kd.av jX.out).2.1);rintro e CJ ⟨rfl,hb⟩;have aJ:=aa.mk (Kd.fU (Kd.rz lU) hb);have aQ:=aa.mk (Kd.fU (Kd.rz jX) hb);have bt:=aa.mk (bn (kz cG) hb);have cr:=aa.mk (aq (bz HB) hb);clear lU;clear jX;clear cG;clear HB;have lU:=aJ;have jX:=aQ;have cG:=bt;have HB:=cr;clear aJ aQ bt cr;(try clear hb);(try clear hb2);(try clear hk);(try clear hi);have p33:0<=(10:Int):=(by omega);have q33:(10:Int)<((qa.length:Int):Int):=gD;have AtG:(10<qa.length)=True:=eq_true (by omega);obtain ⟨GH,zL,Eo,AfI,Am6,AtH,AfJ⟩:=Kd.z9 jX.out (by omega);(first|cases Eo|(injection Eo with UN en_ ec_;(first|subst UN|(injection UN with UN;subst UN));subst ec_;clear en_));have AfK:=aa.mk AfI;have AtI:=aa.mk AfJ;clear AfI Am6 AfJ;obtain ⟨Rx,Ry⟩:=Kd.mO 0 jX.out (10:Int) p33 q33;(try rw [show ((10:Int)).toNat=10 from rfl] at Rx);(try simp only [Nat.reduceMul,Nat.zero_mul,Nat.zero_add,Nat.reduceAdd] at Rx);(try rw [show ((10:Int)).toNat=10 from rfl] at Ry);(try simp only [Nat.reduceMul,Nat.zero_mul,Nat.zero_add,Nat.reduceAdd] at Ry);replace p33:=eq_true p33;replace q33:=eq_true q33;obtain ⟨Jm,Jn⟩:=Kd.mO 0 jX.out (10:Int) (by omega) gD;(try simp only [Int.reduceToNat,Int.toNat_zero,Int.toNat_ofNat,Nat.reduceMul,Nat.zero_mul,Nat.zero_add] at Jm Jn);(try rw [show ((10:Int)).toNat=10 from rfl] at Jm);(try rw [show ((10:Int)).toNat=10 from rfl] at Jn);have UO:=Kd.Aa jX.out (10:Int) ((xb / 256) % 256))|((with_reducible refine uM (t:=5) (p:=122) rfl ?_);(try (rw [fg CJ];generalize j5:World.drewN CJ _=CJ;have aJ:=aa.mk (Kd.TG j5 lU.out);have aQ:=aa.mk (Kd.TG j5 jX.out);have bt:=aa.mk (PD j5 cG.out);have cr:=aa.mk (H6 j5 HB.out);clear j5 lU jX cG HB;have lU:=aJ;have jX:=aQ;have cG:=bt;have HB:=cr;clear aJ aQ bt cr;(try (obtain ⟨Jm,Jn⟩:=Kd.mO 0 jX.out (10:Int) (by omega) gD));(try (try simp only [Int.reduceToNat,Int.toNat_zero,Int.toNat_ofNat,Nat.reduceMul,Nat.zero_mul,Nat.zero_add] at Jm Jn));(try (try rw [show ((10:Int)).toNat=10 from rfl] at Jm));(try (try rw [show ((10:Int)).toNat=10 from rfl] at Jn));(try (have UO:=Kd.Aa jX.out (10:Int) ((xb / 256) % 256)))));refine sV (t:=5) (p:=122) (v:= ?Am9) (w1:=(CJ.setCell ⟨GH,(10:Int).toNat,none⟩ (.int .u8 ((xb / 256) % 256)))) ?hg ?ho ?hn ?hr ?_;(case ho=>rfl);(case hg=>rfl);(case hn=>rfl);(case hr=>first|(go_simp;done)|(go_simp;rfl));intro Tc hw;have hg:CJ.grownBy Tc (some GH):=(by rw [hw];exact UO.2);have Rz:Kd.R (Kd.int .u8) 5 Tc w.heap.size (fun _=>True) (.slice (some ⟨GH,0,none⟩) qa.length zR) AfB:=(by rw [hw,AfC.out];exact UO.1);clear UO;have aJ:=aa.mk (Kd.uL (v:=(.slice (some ⟨GH,0,none⟩) qa.length zR)) (Kd.rz lU) (Kd.rS jX.out) (by decide) hg);have aQ:=aa.mk (gV (kz cG) hg (Kd.nw jX.out cG.out (by decide)));have bt:=aa.mk (Rz);have cr:=aa.mk ((by rw [hw];exact uu (HB.out) AfK.out:Below w.heap.size w Tc));clear lU;clear cG;clear jX;clear HB;have lU:=aJ;have cG:=aQ;have jX:=bt;have HB:=cr;clear aJ aQ bt cr;clear hg hw Rz;have p35:0<=(11:Int):=(by omega);have q35:(11:Int)<((qa.length:Int):Int):=gD;have AtJ:(11<qa.length)=True:=eq_true (by omega);obtain ⟨RA,RC⟩:=Kd.mO 0 jX.out (11:Int) p35 q35;(try rw [show ((11:Int)).toNat=11 from rfl] at RA);(try simp only [Nat.reduceMul,Nat.zero_mul,Nat.zero_add,Nat.reduceAdd] at RA);(try rw [show ((11:Int)).toNat=11 from rfl] at RC);(try simp only [Nat.reduceMul,Nat.zero_mul,Nat.zero_add,Nat.reduceAdd] at RC);replace p35:=eq_true p35;replace q35:=eq_true q35;obtain ⟨Jo,Jp⟩:=Kd.mO 0 jX.out (11:Int) (by omega) gD;(try simp only [Int.reduceToNat,Int.toNat_zero,Int.toNat_ofNat,Nat.reduceMul,Nat.zero_mul,Nat.zero_add] at Jo Jp);(try rw [show ((11:Int)).toNat=11 from rfl] at Jo);(try rw [show ((11:Int)).toNat=11 from rfl] at Jp);have UQ:=Kd.Aa jX.out (11:Int) ((xb) % 256))|((with_reducible refine uM (t:=5) (p:=123) rfl ?_);(try (rw [fg Tc];generalize j5:World.drewN Tc _=Tc;have aJ:=aa.mk (Kd.TG j5 lU.out);have aQ:=aa.mk (Kd.TG j5 jX.out);have bt:=aa.mk (PD j5 cG.out);have cr:=aa.mk (H6 j5 HB.out);clear j5 lU jX cG HB;have lU:=aJ;have jX:=aQ;have cG:=bt;have HB:=cr;clear aJ aQ bt cr;(try (obtain ⟨Jo,Jp⟩:=Kd.mO 0 jX.out (11:Int) (by omega) gD));(try (try simp only [Int.reduceToNat,Int.toNat_zero,Int.toNat_ofNat,Nat.reduceMul,Nat.zero_mul,Nat.zero_add] at Jo Jp));(try (try rw [show ((11:Int)).toNat=11 from rfl] at Jo));(try (try rw [show ((11:Int)).toNat=11 from rfl] at Jp));(try (have UQ:=Kd.Aa jX.out (11:Int) ((xb) % 256)))));refine sV (t:=5) (p:=123) (v:= ?Anc) (w1:=(Tc.setCell ⟨GH,(11:Int).toNat,none⟩ (.int .u8 ((xb) % 256)))) ?hg ?ho ?hn ?hr ?_;(case ho=>rfl);(case hg=>rfl);(case hn=>rfl);(case hr=>first|(go_simp;done)|(go_simp;rfl));intro MN hw;have hg:Tc.grownBy MN (some GH):=(by rw [hw];exact UQ.2);have Rz:Kd.R (Kd.int .u8) 5 MN w.heap.size (fun _=>True) (.slice (some ⟨GH,0,none⟩) qa.length zR) yJ:=(by rw [hw,AfD.out];exact UQ.1);clear UQ;have aJ:=aa.mk (Kd.uL (v:=(.slice (some ⟨GH,0,none⟩) qa.length zR)) (Kd.rz lU) (Kd.rS jX.out) (by decide) hg);have aQ:=aa.mk (gV (kz cG) hg (Kd.nw jX.out cG.out (by decide)));have bt:=aa.mk (Rz);have cr:=aa.mk ((by rw [hw];exact uu (HB.out) AfK.out:Below w.heap.size w MN));clear lU;clear cG;clear jX;clear HB;have lU:=aJ;have cG:=aQ;have jX:=bt;have HB:=cr;clear aJ aQ bt cr;clear hg hw Rz;have Aiw:MN.cell? ⟨j7,0,none⟩=some (.int .u8 aV):=cz cG.out 0 rfl;have Aix:MN.cell? ⟨j7,1,none⟩=some (.int .u8 bh):=cz cG.out 1 rfl;have Aiy:MN.cell? ⟨j7,2,none⟩=some (.int .u8 bp):=cz cG.out 2 rfl;have Aiz:MN.cell? ⟨j7,3,none⟩=some (.int .u16 bw):=cz cG.out 3 rfl;have AiA:MN.cell? ⟨j7,4,none⟩=some (.int .u8 dQ):=cz cG.out 4 rfl;have AiB:MN.cell? ⟨j7,5,none⟩=some (.int .u16 dU):=cz cG.out 5 rfl;have AiC:MN.cell? ⟨j7,6,none⟩=some (.int .u32 dZ):=cz cG.out 6 rfl;have AiD:MN.cell? ⟨j7,7,none⟩=some (.int .u32 ee):=cz cG.out 7 rfl;have AiE:MN.cell? ⟨j7,8,none⟩=some (.slice jw bN.length jx):=cz cG.out 8 rfl;have AiF:MN.cell? ⟨j7,9,none⟩=some (.slice jy cJ.length jz):=cz cG.out 9 rfl;have AiG:=ae cG.out 0;have AiH:=ae cG.out 1;have AiI:=ae cG.out 2;have AiJ:=ae cG.out 3;have AiK:=ae cG.out 4;have AiL:=ae cG.out 5;have AiM:=ae cG.out 6;have AiN:=ae cG.out 7;have AiO:=ae cG.out 8;have AiP:=ae cG.out 9)|((with_reducible refine fo (b:= .append) (xs:= #[.tmp 124,.tmp 126]) rfl ?_);(try (refine eN (by rfl) ?_;dsimp only));at_builtin;refine Kd.gC (Kd.int .u8) (w0:=w) w.heap.size rfl (.tmp 124) (.tmp 126) 23 5 (.int .u8 0) 1 rfl Try.underlying23 gB rfl (by decide) (by omega) (.slice (some ⟨GH,0,none⟩) qa.length zR) yJ cJ _ _ _ (fun _=>True) (fun _=>False) rfl rfl ?aO ?aR (fun _ _ h=>h) (fun _ h=>h.elim) ?aF ?aB ?aS ?aL ?_;(case aR=>exact Kd.aU Bj.out (bz HB));(case aB=>exact bz HB);(case aF=>exact (fun _ _=>trivial));(case aO=>exact (Kd.rz jX));(case aS=>exact (af (bz HB)));(case aL=>have:=AfE.out;omega);intro AtK w46 ho hb hg hat;rw [<- AfF.out] at ho;have aJ:=aa.mk (Kd.uL (Kd.rz lU) (Kd.rS (Kd.rz jX)) (by decide) hg);have aQ:=aa.mk (gV (kz cG) hg (Kd.nw jX.out cG.out (by decide)));have bt:=aa.mk (hb);have cr:=aa.mk (ho);clear lU;clear cG;clear HB;clear jX;have lU:=aJ;have cG:=aQ;have HB:=bt;have AfL:=cr;clear aJ aQ bt cr;clear ho hb hg hat))
            go_ret2
            exact ⟨_,by first|rfl|(simp [aj,ak]<;>rfl)|(simp [*,aj,ak]<;>rfl),by (with_reducible repeat (first|apply Kd.eX|apply Kd.eT|apply Kd.eY));exact AfL.out,bz HB⟩
           ·rw [ax c36] at H
            cases H
          ·rw [ax c34] at H
           cases H
         ·rw [ax KN] at H
          cases H
        ·rw [ax c30] at H
         cases H
attribute [local go_sem] ot
attribute [local go_sem] ou
attribute [local go_sem] ow
attribute [local go_sem] ox
attribute [local go_sem] oy
attribute [local go_sem] oA
attribute [local go_sem] oC
attribute [local go_sem] oD
attribute [local go_sem] oE
attribute [local go_sem] oF
attribute [local go_sem] oG
attribute [local go_sem] oH
def vO (k:Nat) (r:LK) (si sp di dp:Int) (py:Option (List Int)):Option (List Int×Int):=
 if r.e=0 then
  if r.pr=1 /\ (0<r.wz.length /\ ¬ (sp=0 /\ dp=0) \/ ¬ sp=dp) then some ([],21)
  else py.bind fun y=>eM.f k r.a r.t r.pr r.i r.fl r.dM si di r.o y
 else some ([],r.e)
def jY.f (k:Nat) (l:List Int) (si sp di dp:Int):Option (List Int×Int):=(jN.f k l).bind fun r=>vO k r si sp di dp (pointed.f k si sp di dp r.x)
attribute [local go_sem] ot
attribute [local go_sem] ou
attribute [local go_sem] ow
attribute [local go_sem] ox
attribute [local go_sem] oy
attribute [local go_sem] oA
attribute [local go_sem] oC
attribute [local go_sem] oD
attribute [local go_sem] oE
attribute [local go_sem] oF
attribute [local go_sem] oG
attribute [local go_sem] oH
def AB.R6.T:Bool×List (List Nat×List Nat):=(true,[([],[]),([0],[0]),([],[]),([2],[2]),([],[]),([],[]),([],[]),([4,5,6],[4,5,6]),([0,1],[]),([8,1,7,0,1],[1,8]),([0,1,2,3,8,9],[]),([10,3,9,0,1,2,3,8,9],[3,10]),([0,1,2,3,4,5,6,7,8,9,10,11],[]),([12,7,11,0,1,2,3,4,5,6,7,8,9,10,11],[7,12])])
theorem AB.R6.tab:gS .any (opsOf Try.f32 6)=AB.R6.T:=by kernel_rfl
theorem AB.R6.bits:dN AB.R6.T.2 [0,1,0,4,0,0,0,112,3,499,1023,2047,4095,8191]=true:=by kernel_rfl
theorem jY.via (k:Nat) (A:Option Addr) (c:Nat) (l:List Int) (r:LK) (si ps di pd:Int) (py:Option (List Int)) (rb:List Int) (re:Int) (w:World) (hC:Kd.C (Kd.int .u8) w A l.length l) (hL:l.length<=c) (h69:∀ w2:World,Kd.C (Kd.int .u8) w2 A l.length l ->Calls Try.prog 69 #[.slice A l.length c] w2 fun e w'=>r.Post w2.heap.size w2 e w') (h70:∀ y:List Int,py=some y ->∀ (w2:World) (vx:Value) (base:Nat),r.x.V w2 base vx ->Calls Try.prog 70 #[vx,.agg #[.int .u32 si,.int .u16 ps],.agg #[.int .u32 di,.int .u16 pd]] w2 fun e w'=>∃ vz:Value,e= .returned vz /\ Kd.R (Kd.int .u8) 5 w' w2.heap.size (fun _=>True) vz y /\ Below w2.heap.size w2 w') (h:vO k r si ps di pd py=some (rb,re)):
  Calls Try.prog 32 #[.slice A l.length c,.agg #[.int .u32 si,.int .u16 ps],.agg #[.int .u32 di,.int .u16 pd]] w fun e w'=>∃ vr:Value,e= .returned (.tuple #[vr,.int .i64 re]) /\ Kd.R (Kd.int .u8) 5 w' w.heap.size (fun _=>True) vr rb /\ Below w.heap.size w w':=by
 have iQ:=Try.underlying65;have jb:=Try.underlying73;have nn:=Try.underlying76;unfold vO at h
 obtain ⟨a,t,pr,i,fl,dM,s,d,o,b,x,sp,dp,ff,wz,e_⟩:=r;have HB:=gj w;have HC:=aa.mk hC;have HL:=aa.mk hL;have HP:=aa.mk h69;have H70:=aa.mk h70;have HF:=aa.mk h;have fL:aa ((Try.prog.info? 65).map (·.size)=some 2):=⟨by kernel_rfl⟩
 have eI:aa ((Try.prog.info? 73).map (·.size)=some 10):=⟨by kernel_rfl⟩
 have iN:aa ((Try.prog.info? 76).map (·.size)=some 7):=⟨by kernel_rfl⟩
 clear hC hL h h69 h70
 go_enter Try.func32,Try.ntmps32
 go_upto_region 1 with (first|((with_reducible refine aA (N:=4) rfl ?_);refine aC ?gJ (N:=4) ?iS (cs:= #[.int .u32 si,.int .u16 ps]) (t:=65) ?fq ?_;(case iS=>rfl);(case gJ=>rfl);(case fq=>first|(go_simp;done)|(go_simp;rfl));intro gs cv w1 bJ cP;have Dc:=aa.mk (show w.heap.size<=gs by rw [cv];exact af HB.out);have cM:=aa.mk bJ;have ah:=cP;replace HB:=mB HB ah;clear ah;clear cv bJ cP)|((with_reducible refine aA (N:=5) rfl ?_);refine aC ?gJ (N:=5) ?iS (cs:= #[.int .u32 di,.int .u16 pd]) (t:=65) ?fq ?_;(case iS=>rfl);(case gJ=>rfl);(case fq=>first|(go_simp;done)|(go_simp;rfl));intro gd cv w2 bJ cP;have Dd:=aa.mk (show w.heap.size<=gd by rw [cv];exact af HB.out);have cE:=aa.mk bJ;have iG:aa (gs≠gd):=⟨by rw [cv];exact (dJ cM).out⟩;have ah:=cP;replace HB:=mB HB ah;replace cM:=mX cM ah;clear ah;clear cv bJ cP))
 go_wp2_with fail
 refine (HP.out _ (Kd.aU HC.out HB.out)).mono ?_;rintro ev w3 hpost;obtain ⟨vo,vb,vx,vi,rfl,ho,qn,hx,hi,hb⟩:=hpost;dsimp only at ho qn hx hi
 have bQ:=lD ho HB;obtain ⟨Ao,co,rfl,_,_⟩:=Kd.bW ho;clear ho;have bC:=lD qn HB;obtain ⟨Ab,cb,rfl,_,_⟩:=Kd.bW qn;clear qn;have lp:=aa.mk (Kd.bP hi (af HB.out));obtain ⟨Ai,ci,rfl,_,_⟩:=Kd.bW hi;clear hi;have HV:=aa.mk hx;clear hx;have ah:=hb;replace HB:=mB HB ah;replace cM:=mX cM ah;replace cE:=mX cE ah;clear ah;clear hb HP
 (try dsimp only)
 go_upto_region 2 with (first|((with_reducible refine aA (N:=8) rfl ?_);refine aC ?gJ (N:=8) ?iS (cs:= #[.int .u8 0,.int .u8 0,.int .u8 0,.int .u16 0,.int .u8 0,.int .u16 0,.int .u32 0,.int .u32 0,.slice none 0 0,.slice none 0 0]) (t:=73) ?fq ?_;(case iS=>rfl);(case gJ=>rfl);(case fq=>first|(go_simp;done)|(go_simp;rfl));intro gp cv w4 bJ cP;have lE:=aa.mk (show w.heap.size<=gp by rw [cv];exact af HB.out);have aT:=aa.mk bJ;have ah:=cP;replace HB:=mB HB ah;replace cM:=mX cM ah;replace cE:=mX cE ah;replace bQ:=mR bQ ah;replace bC:=mR bC ah;replace lp:=mI lp ah;replace HV:=mV HV ah;clear ah;clear cv bJ cP)|((with_reducible refine aA (N:=10) rfl ?_);refine aC ?gJ (N:=10) ?iS (cs:= #[.int .u8 0,.int .u32 0,.int .u16 0,.int .u32 0,.int .u16 0,.int .u8 0,.slice none 0 0]) (t:=76) ?fq ?_;(case iS=>rfl);(case gJ=>rfl);(case fq=>first|(go_simp;done)|(go_simp;rfl));intro gf cv w5 bJ cP;have nJ:=aa.mk (show w.heap.size<=gf by rw [cv];exact af HB.out);have bI:=aa.mk bJ;have ah:=cP;replace HB:=mB HB ah;replace cM:=mX cM ah;replace cE:=mX cE ah;replace bQ:=mR bQ ah;replace bC:=mR bC ah;replace lp:=mI lp ah;replace HV:=mV HV ah;replace aT:=mX aT ah;clear ah;clear cv bJ cP)|((refine dO rfl rfl rfl rfl rfl aT.out eI.out rfl (by simp [Value.oneCell']) ?_);intro w6 hs_ ag;replace cM:=oX ag cM aT (by decide);replace cE:=oX ag cE aT (by decide);replace bQ:=oR ag bQ aT (by decide);replace bC:=oR ag bC aT (by decide);replace lp:=oI ag lp aT (by decide);replace HV:=oV ag HV aT (by decide);replace bI:=oX ag bI aT (by decide);replace HB:=oB ag HB lE;clear ag;replace aT:=aa.mk hs_;clear hs_)|((refine dO rfl rfl rfl rfl rfl bI.out iN.out rfl (by simp [Value.oneCell']) ?_);intro w7 hs_ ag;replace cM:=oX ag cM bI (by decide);replace cE:=oX ag cE bI (by decide);replace bQ:=oR ag bQ bI (by decide);replace bC:=oR ag bC bI (by decide);replace lp:=oI ag lp bI (by decide);replace HV:=oV ag HV bI (by decide);replace aT:=oX ag aT bI (by decide);replace HB:=oB ag HB nJ;clear ag;replace bI:=aa.mk hs_;clear hs_))
 have H:=HF.out;clear HF
 (try dsimp only at H)
 by_cases ce:e_=0
 ·have Bl:(e_==0)=true:=fH ce
  have Je:(e_ !=0)=false:=by rw [bne,Bl];rfl
  rw [au ce] at H
  clear ce;have Ane:=cz bI.out 0 rfl;have UR:=cz bI.out 6 rfl;have Ep:=cz cM.out 1 rfl;have US:=cz cE.out 1 rfl
  by_cases hc:pr=1 /\ (0<wz.length /\ ¬ (ps=0 /\ pd=0) \/ ¬ ps=pd)
  ·rw [au hc] at H
   simp only [Option.some.injEq,Prod.mk.injEq] at H
   obtain ⟨rfl,rfl⟩:=H;have h3:(pr=1 /\ 0<wz.length /\ ps=0 /\ ¬ pd=0) \/ (pr=1 /\ 0<wz.length /\ ¬ ps=0) \/ (pr=1 /\ ¬ 0<wz.length /\ ¬ ps=pd):=by omega
   clear hc
   rcases h3 with ⟨np,ni,ns,nd⟩|⟨np,ni,ns⟩|⟨np,ni,ne⟩
   ·have Ok:(pr==1)=true:=fH np;have Xx:(pr !=1)=false:=(by rw [bne,Ok];rfl);have ni1:decide (0<(wz.length:Int))=true:=bS (by omega);have ni2:decide (0<wz.length)=true:=bS (by omega);have ns1:(ps==0)=true:=fH ns;have ns2:(ps !=0)=false:=(by rw [bne,ns1];rfl);have nd1:(pd==0)=false:=fc nd;have nd2:(pd !=0)=true:=bne_iff_ne.2 nd;clear np ni ns nd;(try dsimp only);go_wp2;(try simp only [Exit.inBlock,Exit.then]);go_ret2;exact ⟨_,rfl,Kd.cl _ _ _ _ _,HB.out⟩
   ·have Ok:(pr==1)=true:=fH np;have Xx:(pr !=1)=false:=(by rw [bne,Ok];rfl);have ni1:decide (0<(wz.length:Int))=true:=bS (by omega);have ni2:decide (0<wz.length)=true:=bS (by omega);have ns1:(ps==0)=false:=fc ns;have ns2:(ps !=0)=true:=bne_iff_ne.2 ns;clear np ni ns;(try dsimp only);go_wp2;(try simp only [Exit.inBlock,Exit.then]);go_ret2;exact ⟨_,rfl,Kd.cl _ _ _ _ _,HB.out⟩
   ·have Ok:(pr==1)=true:=fH np;have Xx:(pr !=1)=false:=(by rw [bne,Ok];rfl);have ni1:decide (0<(wz.length:Int))=false:=gO (by omega);have ni2:decide (0<wz.length)=false:=gO (by omega);have ne1:(ps==pd)=false:=fc ne;have ne2:(ps !=pd)=true:=bne_iff_ne.2 ne;clear np ni ne;(try dsimp only);go_wp2;(try simp only [Exit.inBlock,Exit.then]);go_ret2;exact ⟨_,rfl,Kd.cl _ _ _ _ _,HB.out⟩
  ·rw [ax hc] at H
   obtain ⟨y,hy,H⟩:=bV H;have HY:=aa.mk hy;have HG:=aa.mk H;clear hy H;have h3:(¬ pr=1) \/ (pr=1 /\ 0<wz.length /\ ps=0 /\ pd=0) \/ (pr=1 /\ ¬ 0<wz.length /\ ps=pd):=by omega
   clear hc
   rcases h3 with np|⟨np,ni,ns,nd⟩|⟨np,ni,ne⟩
   all_goals first
    |(have Ok:(pr==1)=false:=fc np;have Xx:(pr !=1)=true:=bne_iff_ne.2 np;clear np;(try dsimp only);go_upto_region 6 with (fail);clear Ok Xx)
    |(have Ok:(pr==1)=true:=fH np;have Xx:(pr !=1)=false:=(by rw [bne,Ok];rfl);have ni1:decide (0<(wz.length:Int))=true:=bS (by omega);have ni2:decide (0<wz.length)=true:=bS (by omega);have ns1:(ps==0)=true:=fH ns;have ns2:(ps !=0)=false:=(by rw [bne,ns1];rfl);have nd1:(pd==0)=true:=fH nd;have nd2:(pd !=0)=false:=(by rw [bne,nd1];rfl);have ne:ps=pd:=(by omega);have ne1:(ps==pd)=true:=fH ne;have ne2:(ps !=pd)=false:=(by rw [bne,ne1];rfl);clear np ni ns nd ne;(try dsimp only);go_upto_region 6 with (fail);clear Ok Xx ni1 ni2 ns1 ns2 nd1 nd2 ne1 ne2)
    |(have Ok:(pr==1)=true:=fH np;have Xx:(pr !=1)=false:=(by rw [bne,Ok];rfl);have ni1:decide (0<(wz.length:Int))=false:=gO (by omega);have ni2:decide (0<wz.length)=false:=gO (by omega);have ne1:(ps==pd)=true:=fH ne;have ne2:(ps !=pd)=false:=(by rw [bne,ne1];rfl);clear np ni ne;(try dsimp only);go_upto_region 6 with (fail);clear Ok Xx ni1 ni2 ne1 ne2)
   all_goals
    clear Ane UR Ep US;refine dg (n:=14) (S:=fun w'=>w'.heap[gs]?=some (.cells #[.int .u32 si,.int .u16 ps] 65 (0,0)) /\ w'.heap[gd]?=some (.cells #[.int .u32 di,.int .u16 pd] 65 (0,0))) (ds:=[]) #[false,false,false,false,false,false,false,false,false,false,false,false,false,false] (by kernel_rfl) rfl rfl ⟨cM.out,cE.out⟩ (fun hHeld=> ?_);refine bH AB.R6.tab AB.R6.bits (fun az dW=> ?_);have ah:=bf (Below.refl w7.heap.size w7);replace HB:=mB HB ah;replace cM:=mX cM ah;replace cE:=mX cE ah;replace bQ:=mR bQ ah;replace bC:=mR bC ah;replace lp:=mI lp ah;replace HV:=mV HV ah;replace aT:=mX aT ah;replace bI:=mX bI ah;clear ah;generalize w7.drew=w8 at HB cM cE bQ bC lp HV aT bI hHeld|-
    refine pz 0 48 az ?_;refine pz 2 50 az ?_;refine pz 4 52 az ?_;refine gK (i:=1) (N:=some 49) (v:= ?_) (a':= ?_) #[true,true,true,false,true,false,false,false,false,false,false,false,false,false] rfl rfl (dn az.out dW.out (by kernel_rfl)) (fun _ _ _ h=>h) (Or.inl ⟨by rfl, ?_⟩) hHeld ?_ ?_
    rotate_left
    ·intro w' s0
     obtain ⟨s0,s1⟩:=s0;have s0_:=(aE s0 0).trans (rfl:_=some (.int .u32 si:Value))
     go_simp
     with_reducible rfl
    rotate_left
    ·simp only [pL]
     rfl
    refine pz 8 56 az ?_;refine gK (i:=3) (N:=some 51) (v:= ?_) (a':= ?_) #[true,true,true,true,true,false,false,false,true,false,false,false,false,false] rfl rfl (dn az.out dW.out (by kernel_rfl)) (fun _ _ _ h=>h) (Or.inl ⟨by rfl, ?_⟩) hHeld ?_ ?_
    rotate_left
    ·intro w' s0
     obtain ⟨s0,s1⟩:=s0;have s0_:=(aE s1 0).trans (rfl:_=some (.int .u32 di:Value))
     go_simp
     with_reducible rfl
    rotate_left
    ·simp only [pL]
     rfl
    refine tv 5 53 (.agg #[.int .u32 si,.int .u16 ps]) az dW hHeld ?_ ?_
    ·intro w' s0
     obtain ⟨s0,s1⟩:=s0;exact br (p:= .tmp 4) (ty:=65) (by rfl) (by rfl) s0 iQ (by rfl) fL.out
    refine nz 53 ?_;refine tv 6 54 (.agg #[.int .u32 di,.int .u16 pd]) az dW hHeld ?_ ?_
    ·intro w' s0
     obtain ⟨s0,s1⟩:=s0;exact br (p:= .tmp 5) (ty:=65) (by rfl) (by rfl) s1 iQ (by rfl) fL.out
    refine nz 54 ?_;refine oz 7 (some 55) az (fun K hK=> ?_);refine kF Try.func70 (by kernel_rfl) rfl #[vx,.agg #[.int .u32 si,.int .u16 ps],.agg #[.int .u32 di,.int .u16 pd]] (by rfl) rfl rfl (by first|rfl|(go_simp;done)|(go_simp;rfl)|(go_simp;decide)) ?_;refine (H70.out y HY.out _ vx _ HV.out).mono ?_;rintro ev w9 ⟨vy,rfl,ho,hb⟩;have qg:=aa.mk (Kd.bP ho (af HB.out));obtain ⟨Ay,cy,rfl,_,_⟩:=Kd.bW ho;clear ho HY;have ah:=hb;replace HB:=mB HB ah;replace cM:=mX cM ah;replace cE:=mX cE ah;replace bQ:=mR bQ ah;replace bC:=mR bC ah;replace lp:=mI lp ah;replace HV:=mV HV ah;replace aT:=mX aT ah;replace bI:=mX bI ah;clear ah;clear hb;refine ⟨_,rfl, ?_⟩;refine hK.out _ _ ⟨cM.out,cE.out⟩ (fun hHeld=> ?_);clear hK K;refine nz 55 ?_;refine oz 9 (none) az (fun K hK=> ?_)
    refine fK (i:=6) (v:= .int .u32 si) (cs':= #[.int .u8 a,.int .u8 t,.int .u8 pr,.int .u16 i,.int .u8 fl,.int .u16 dM,.int .u32 si,.int .u32 d,.slice Ao o.length co,.slice Ab b.length cb]) (by rfl) (by rfl) aT.out rfl (by (have m_:=(aE aT.out 6).trans (rfl:_=some (.int .u32 s:Value)));(have nY:=ae aT.out 6);first|(go_simp;done)|(go_simp;rfl)) ?_;intro j4 hs_ ag;replace cM:=oX ag cM aT (by decide);replace cE:=oX ag cE aT (by decide);replace bQ:=oR ag bQ aT (by decide);replace bC:=oR ag bC aT (by decide);replace lp:=oI ag lp aT (by decide);replace HV:=oV ag HV aT (by decide);replace bI:=oX ag bI aT (by decide);replace qg:=oR ag qg aT (by decide);replace HB:=oB ag HB lE;clear ag;replace aT:=aa.mk hs_;clear hs_
    refine hK.out _ _ ⟨cM.out,cE.out⟩ (fun hHeld=> ?_);clear hK K;refine pz 10 57 az ?_;refine oz 11 (none) az (fun K hK=> ?_);refine fK (i:=7) (v:= .int .u32 di) (cs':= #[.int .u8 a,.int .u8 t,.int .u8 pr,.int .u16 i,.int .u8 fl,.int .u16 dM,.int .u32 si,.int .u32 di,.slice Ao o.length co,.slice Ab b.length cb]) (by rfl) (by rfl) aT.out rfl (by (have m_:=(aE aT.out 7).trans (rfl:_=some (.int .u32 d:Value)));(have nY:=ae aT.out 7);first|(go_simp;done)|(go_simp;rfl)) ?_;intro qf hs_ ag;replace cM:=oX ag cM aT (by decide);replace cE:=oX ag cE aT (by decide);replace bQ:=oR ag bQ aT (by decide);replace bC:=oR ag bC aT (by decide);replace lp:=oI ag lp aT (by decide);replace HV:=oV ag HV aT (by decide);replace bI:=oX ag bI aT (by decide)
    replace qg:=oR ag qg aT (by decide);replace HB:=oB ag HB lE;clear ag;replace aT:=aa.mk hs_;clear hs_;refine hK.out _ _ ⟨cM.out,cE.out⟩ (fun hHeld=> ?_);clear hK K;refine pz 12 58 az ?_;refine oz 13 (none) az (fun K hK=> ?_);refine fK (i:=9) (v:= .slice Ay y.length cy) (cs':= #[.int .u8 a,.int .u8 t,.int .u8 pr,.int .u16 i,.int .u8 fl,.int .u16 dM,.int .u32 si,.int .u32 di,.slice Ao o.length co,.slice Ay y.length cy]) (by rfl) (by rfl) aT.out rfl (by (have m_:=(aE aT.out 9).trans (rfl:_=some (.slice Ab b.length cb:Value)));(have nY:=ae aT.out 9);first|(go_simp;done)|(go_simp;rfl)) ?_;intro l5 hs_ ag;replace cM:=oX ag cM aT (by decide);replace cE:=oX ag cE aT (by decide);replace bQ:=oR ag bQ aT (by decide);replace bC:=oR ag bC aT (by decide)
    replace lp:=oI ag lp aT (by decide);replace HV:=oV ag HV aT (by decide);replace bI:=oX ag bI aT (by decide);replace qg:=oR ag qg aT (by decide);replace HB:=oB ag HB lE;clear ag;replace aT:=aa.mk hs_;clear hs_;refine hK.out _ _ ⟨cM.out,cE.out⟩ (fun hHeld=> ?_);clear hK K;refine dz az ?_;clear az dW hHeld;have H:=HG.out;clear HG
    (try dsimp only)
    go_wp2_with (refine Kd.bL rfl (br rfl rfl aT.out Try.underlying73 rfl eI.out) ?_)
    refine (eM.calls k a t pr i fl dM si di Ao co o Ay cy y rb re _ (Kd.av bQ.out).2.2 (Kd.av bQ.out).2.1 (Kd.av qg.out).2.2 (Kd.av qg.out).2.1 H).mono ?_;rintro ev sR ⟨vr,rfl,ho,hb⟩;have Lo:=aa.mk (Kd.bP ho (af HB.out));clear ho;have ah:=hb;replace HB:=mB HB ah;replace cM:=mX cM ah;replace cE:=mX cE ah;replace bQ:=mR bQ ah;replace bC:=mR bC ah;replace lp:=mI lp ah;replace HV:=mV HV ah;replace aT:=mX aT ah;replace bI:=mX bI ah;replace qg:=mR qg ah;clear ah;clear hb
    (try dsimp only)
    go_wp2
    (try simp only [Exit.inBlock,Exit.then])
    go_ret2
    exact ⟨_,rfl,Lo.out,HB.out⟩
 ·have Bl:(e_==0)=false:=fc ce
  have Je:(e_ !=0)=true:=bne_iff_ne.2 ce;rw [ax ce] at H
  clear ce;simp only [Option.some.injEq,Prod.mk.injEq] at H
  obtain ⟨rfl,rfl⟩:=H
  (try dsimp only)
  go_wp2
  (try simp only [Exit.inBlock,Exit.then])
  go_ret2
  exact ⟨_,rfl,Kd.cl _ _ _ _ _,HB.out⟩
attribute [local go_sem] ot
attribute [local go_sem] ou
attribute [local go_sem] ow
attribute [local go_sem] ox
attribute [local go_sem] oy
attribute [local go_sem] oA
attribute [local go_sem] oC
attribute [local go_sem] oD
attribute [local go_sem] oE
attribute [local go_sem] oF
attribute [local go_sem] oG
attribute [local go_sem] oH
theorem jY.calls (k:Nat) (A:Option Addr) (c:Nat) (l:List Int) (si ps di pd:Int) (rb:List Int) (re:Int) (w:World) (hC:Kd.C (Kd.int .u8) w A l.length l) (hL:l.length<=c) (h:jY.f k l si ps di pd=some (rb,re)):
  Calls Try.prog 32 #[.slice A l.length c,.agg #[.int .u32 si,.int .u16 ps],.agg #[.int .u32 di,.int .u16 pd]] w fun e w'=>∃ vr:Value,e= .returned (.tuple #[vr,.int .i64 re]) /\ Kd.R (Kd.int .u8) 5 w' w.heap.size (fun _=>True) vr rb /\ Below w.heap.size w w':=by
 obtain ⟨r,h1,h2⟩:=bV h;exact jY.via k A c l r si ps di pd _ rb re w hC hL (fun w2 h3=>jN.calls k A c l r w2 h3 hL h1) (fun y hy w2 vx base hv=>pointed.calls k si ps di pd r.x vx base y w2 hv hy) h2
theorem Aa0 (g o j:Nat):(⟨g,o,none⟩:Addr).add j=⟨g,o+j,none⟩:=by
 unfold Addr.add
 split<;>simp_all
theorem Aa1 {w:World} {base c g n e:Nat} {ok:Nat ->Prop} {xs:List Int} (hR:Kd.R (Kd.int .u8) e w base ok (.slice (some ⟨g,0,none⟩) n c) xs) (m:Nat) (hm:m<=xs.length):Kd.C (Kd.int .u8) w (some ⟨g,0,none⟩) (xs.take m).length (xs.take m):=Kd.Yy (Kd.av hR).2.2 hm
theorem UT {P:Program} (t e:TypeId) (kh:IntKind) {i:TypeInfo} (ht:P.underlying t=some (.slice e)) (hi:P.info? e=some i) (hs:i.size=1) (g o n c:Nat) (x:Int) (j:Nat) (hx:x=(j:Int)) (hm:j<=n) (hc:j<c):∀ W:World,(Instr.slice t (.slice (some ⟨g,o,none⟩) n c) (some (.int kh x)) none none).run P W= .ok (.slice (some ⟨g,o+j,none⟩) (n - j) (c - j)) W:=by
 subst hx;intro W;have h:=Pr (P:=P) t e kh ht hi 1 hs (some ⟨g,o,none⟩) n c (j:Int) (by omega) (by omega) W;rw [Int.toNat_natCast,ax (by omega)] at h
 simp only [Option.map_some,Aa0,Nat.mul_one] at h
 exact h
theorem kS.trans {W w1 w2:World} {g:Nat} (h:kS W w1 g) (h2:kS w1 w2 g):kS W w2 g:=⟨h2.os.trans h.os,h2.tape.trans h.tape,h2.output.trans h.output,h2.size.trans h.size,fun k hk=>(h2.far k hk).trans (h.far k hk)⟩
theorem Lp {P:Program} {o:Oper} {ev:Operand ->Value} {W:World} {t e:TypeId} (hu:P.underlying t=some (.slice e)) {x lo:Operand} {vx vl r:Value} (ho:o.op= .slice t x (some lo) none none) (hx:ev x=vx) (hl:ev lo=vl) (h:(Instr.slice t vx (some vl) none none).run P W= .ok r W):(execOp ev o).run P W= .ok (.value r) W:=by
 unfold execOp;simp only [ho,Option.map_some,Option.map_none,hx,hl]
 simp [Instr.sliceAt,underlying,hu,h,Sem.run_bind,Result.andThen]
theorem Lq {P:Program} {o:Oper} {ev:Operand ->Value} {W:World} {t e:TypeId} (hu:P.underlying t=some (.slice e)) {x lo:Operand} {vx vl r:Value} (ho:o.op= .slice t x none (some lo) none) (hx:ev x=vx) (hl:ev lo=vl) (h:(Instr.slice t vx none (some vl) none).run P W= .ok r W):(execOp ev o).run P W= .ok (.value r) W:=by
 unfold execOp;simp only [ho,Option.map_some,Option.map_none,hx,hl]
 simp [Instr.sliceAt,underlying,hu,h,Sem.run_bind,Result.andThen]
def xg (xs:List Int) (j:Nat) (a:Int):List Int:=(xs.set j (a / 256 % 256)).set (j+1) (a % 256)
theorem zS (xs:List Int) (j:Nat) (a:Int):(xg xs j a).length=xs.length:=by unfold xg;rw [List.length_set,List.length_set]
theorem M3 (g j m c c2 base:Nat) (ok:Nat ->Prop) (xs:List Int) (n:Nat) (a1:Int) (w:World) (hR:Kd.R (Kd.int .u8) 5 w base ok (.slice (some ⟨g,0,none⟩) n c) xs) (hj:j+2<=n) (hm:2<=m):
  Calls Try.prog 89 #[.slice (some ⟨g,j,none⟩) m c2,.int .u16 a1] w fun e w'=>e= .returned (.tuple #[]) /\ Kd.R (Kd.int .u8) 5 w' base ok (.slice (some ⟨g,0,none⟩) n c) (xg xs j a1) /\ kS w w' g:=by
 obtain ⟨hc0,hf0⟩:=Kd.mO (0:Int) hR (j:Int) (by omega) (by omega);have Xy:=Kd.FC hR (j:Int) (a1 / 256 % 256);obtain ⟨hc1,hf1⟩:=Kd.mO (0:Int) Xy ((j+1:Nat):Int) (by omega) (by omega);have hR2:=Kd.FC Xy ((j+1:Nat):Int) (a1 % 256);rw [Int.toNat_natCast] at hc0 hf0 Xy hc1 hf1 hR2
 rw [Int.toNat_natCast] at hc1 hf1 hR2
 have HR:=aa.mk hR2;have HO1:=aa.mk (kS.setCell w g j (.int .u8 (a1 / 256 % 256)));have b0:decide (0<(m:Int))=true:=bS (by omega);have b1:decide (0<m)=true:=bS (by omega);have b2:decide (1<(m:Int))=true:=bS (by omega);have b3:decide (1<m)=true:=bS (by omega);have b4:(0<m)=True:=eq_true (by omega);have b5:(1<m)=True:=eq_true (by omega);have b6:((m:Int)<=1)=False:=eq_false (by omega);have b7:(m<=1)=False:=eq_false (by omega);have b8:((1:Int)<(m:Int))=True:=eq_true (by omega);have jC:=aa.mk hc0;have HF0:=aa.mk hf0;have HC1:=aa.mk hc1;have HF1:=aa.mk hf1;clear hR Xy hR2 hj hm hc0 hf0 hc1 hf1
 go_enter Try.func89,Try.ntmps89
 go_wp2_with (first|((refine mQ rfl rfl (w1:=w.setCell ⟨g,j,none⟩ (.int .u8 (a1 / 256 % 256))) ?fq ?_);(case fq=>(have m_:=jC.out);(have nY:=HF0.out);first|(go_simp;done)|(go_simp;rfl));have Wb:=aa.mk (HO1.out.trans (kS.setCell (w.setCell ⟨g,j,none⟩ (.int .u8 (a1 / 256 % 256))) g (j+1) (.int .u8 (a1 % 256))));clear HO1;(have m_:=HC1.out);(have nY:=HF1.out);generalize hw1:w.setCell ⟨g,j,none⟩ (.int .u8 (a1 / 256 % 256))=w1 at HR m_ nY Wb|-;clear hw1)|((refine mQ rfl rfl (w1:=w1.setCell ⟨g,j+1,none⟩ (.int .u8 (a1 % 256))) ?fq ?_);(case fq=>first|(go_simp;done)|(go_simp;rfl))))
 first|go_end0|((try simp only [Exit.inBlock,Exit.then]);refine bodyPost_ret (results_none rfl _ _ _) rfl ?_)
 exact ⟨rfl,HR.out,Wb.out⟩
def rI.f (k:Nat) (l:List Int) (head:Nat):Option (List Int):=(oq.f k ((xg l 10 0).take head)).bind fun c=>some (xg (xg l 10 0) 10 c)
def rI.R2.T:Bool×List (List Nat×List Nat):=(true,[([],[]),([0],[0]),([],[]),([],[]),([2,3],[2,3]),([4],[4]),([1,5,5],[1,5])])
theorem rI.R2.tab:gS .any (opsOf Try.f78 2)=rI.R2.T:=by kernel_rfl
theorem rI.R2.bits:dN rI.R2.T.2 [0,1,0,0,12,28,63]=true:=by kernel_rfl
theorem rI.calls (k g n c hd:Nat) (l r:List Int) (w0 w:World) (hR:Kd.R (Kd.int .u8) 5 w w0.heap.size (fun _=>True) (.slice (some ⟨g,0,none⟩) n c) l) (hB:Below w0.heap.size w0 w) (hg:w0.heap.size<=g) (FL:12<=n) (hhd:hd<=n) (h:rI.f k l hd=some r):
  Calls Try.prog 78 #[.slice (some ⟨g,0,none⟩) n c,.int .i64 (hd:Int)] w fun e w'=>e= .returned (.slice (some ⟨g,0,none⟩) n c) /\ Kd.R (Kd.int .u8) 5 w' w0.heap.size (fun _=>True) (.slice (some ⟨g,0,none⟩) n c) r /\ Below w0.heap.size w0 w':=by
 unfold rI.f at h
 obtain ⟨i0,NG,_,hsz,_⟩:=info_parts gB;obtain ⟨s,hs,h⟩:=bV h;obtain rfl:=cS h;have hl:=(Kd.av hR).1;have hc:=(Kd.av hR).2.1;have hcut:=UT (P:=Try.prog) 23 5 .i64 Try.underlying23 NG hsz g 0 n c 10 10 rfl (by omega) (by omega);have EI:=PJ (P:=Try.prog) 23 5 .i64 Try.underlying23 NG (some ⟨g,0,none⟩) n c (hd:Int) hd rfl (by omega) hc;rw [Nat.zero_add] at hcut
 have Anh:=aa.mk hcut;have AfN:=aa.mk EI;have HR:=aa.mk hR;have HB:=aa.mk hB;have HG:=aa.mk hg;have HS:=aa.mk hs;have HLH:aa (hd<=(xg l 10 0).length):=⟨by rw [zS];omega⟩
 have HTL:aa (((xg l 10 0).take hd).length=hd):=⟨by rw [List.length_take,zS];omega⟩
 have HLC:aa (((xg l 10 0).take hd).length<=c):=⟨by rw [HTL.out];omega⟩
 have AfO:aa (10+2<=n):=⟨by omega⟩
 have NQ:aa (2<=n - 10):=⟨by omega⟩
 clear hR hB hg hs hl hc EI NG hsz FL hhd
 go_enter Try.func78,Try.ntmps78
 go_wp2_with fail
 clear hcut;refine (M3 g 10 (n - 10) c (c - 10) w0.heap.size (fun _=>True) l n 0 _ HR.out AfO.out NQ.out).mono ?_;rintro e w1 ⟨rfl,hr,ho⟩;have Dh:=aa.mk hr;have gX:=aa.mk (kS.below ho HB.out HG.out);clear HR HB hr ho;have HR:=Dh;have HB:=gX;clear Dh gX
 (try dsimp only)
 go_upto_region 2 with (fail)
 refine dg (n:=7) (S:=fun _=>True) (ds:=[]) #[false,false,false,false,false,false,false] (by kernel_rfl) rfl rfl trivial (fun hHeld=> ?_);refine bH rI.R2.tab rI.R2.bits (fun az dW=> ?_);have ah:=bf (Below.refl w1.heap.size w1);have Dh:=aa.mk (Kd.fU HR.out ah);have gX:=aa.mk (aq HB.out ah);clear HR HB ah;have HR:=Dh;have HB:=gX;clear Dh gX;generalize w1.drew=w2 at HR HB hHeld|-
 refine pz 0 8 az ?_;refine pv 1 9 (.slice (some ⟨g,10,none⟩) (n - 10) (c - 10)) az ?_ ?_
 ·intro w'
  exact Lp (vx:= .slice (some ⟨g,0,none⟩) n c) (vl:= .int .i64 10) Try.underlying23 (by rfl) (by rfl) (by rfl) (Anh.out w')
 refine nz 9 ?_;refine pz 2 10 az ?_;refine pz 3 11 az ?_;refine pv 4 12 (.slice (some ⟨g,0,none⟩) hd c) az ?_ ?_
 ·intro w'
  exact Lq (vx:= .slice (some ⟨g,0,none⟩) n c) (vl:= .int .i64 (hd:Int)) Try.underlying23 (by rfl) (by rfl) (by rfl) (AfN.out w')
 refine nz 12 ?_;refine oz 5 (some 13) az (fun K hK=> ?_);refine kF Try.func90 (by kernel_rfl) rfl #[.slice (some ⟨g,0,none⟩) hd c] (by rfl) rfl rfl (by first|rfl|(go_simp;done)|(go_simp;rfl)|(go_simp;decide)) ?_;have h90:=oq.calls k (some ⟨g,0,none⟩) c ((xg l 10 0).take hd) s _ (Aa1 HR.out hd HLH.out) HLC.out HS.out;rw [HTL.out] at h90
 refine h90.mono ?_;clear h90;rintro e w3 ⟨rfl,hb⟩;have Dh:=aa.mk (Kd.fU HR.out hb);have gX:=aa.mk (aq HB.out hb);clear HR HB hb;have HR:=Dh;have HB:=gX;clear Dh gX;refine ⟨_,rfl, ?_⟩;refine hK.out _ _ trivial (fun hHeld=> ?_);clear hK K;refine nz 13 ?_;refine oz 6 (some 14) az (fun K hK=> ?_);refine kF Try.func89 (by kernel_rfl) rfl #[.slice (some ⟨g,10,none⟩) (n - 10) (c - 10),.int .u16 s] (by rfl) rfl rfl (by first|rfl|(go_simp;done)|(go_simp;rfl)|(go_simp;decide)) ?_;refine (M3 g 10 (n - 10) c (c - 10) w0.heap.size (fun _=>True) (xg l 10 0) n s _ HR.out AfO.out NQ.out).mono ?_;rintro e w4 ⟨rfl,hr,ho⟩;have Dh:=aa.mk hr;have gX:=aa.mk (kS.below ho HB.out HG.out);clear HR HB hr ho;have HR:=Dh;have HB:=gX;clear Dh gX;refine ⟨_,rfl, ?_⟩
 refine hK.out _ _ trivial (fun hHeld=> ?_);clear hK K;refine nz 14 ?_;refine dz az ?_;clear az dW hHeld
 (try dsimp only)
 go_wp2
 (try simp only [Exit.inBlock,Exit.then])
 go_ret
 exact ⟨rfl,HR.out,HB.out⟩
def q5.f (k:Nat) (l:List Int):Option (List Int×Int):=
 (cX.f k l).bind fun ⟨_,t,_,_,_,_,_,_,_,_,e⟩=>if e=0 then
  if t=0 then some ([],21) else (iY.f l).bind fun ⟨x,hd⟩=>if 12<=x.length /\ 0<=hd /\ hd<=(x.length:Int) then (rI.f k (x.set 8 ((rd x 8 - 1) % 256)) hd.toNat).bind fun y=>some (y,0) else none
 else some ([],e)
theorem q5.calls (k:Nat) (A:Option Addr) (c:Nat) (l:List Int) (rb:List Int) (re:Int) (w:World) (hC:Kd.C (Kd.int .u8) w A l.length l) (hL:l.length<=c) (h:q5.f k l=some (rb,re)):
  Calls Try.prog 34 #[.slice A l.length c] w fun e w'=>∃ vr:Value,e= .returned (.tuple #[vr,.int .i64 re]) /\ Kd.R (Kd.int .u8) 5 w' w.heap.size (fun _=>True) vr rb /\ Below w.heap.size w w':=by
 have jb:=Try.underlying73;unfold q5.f at h
 obtain ⟨⟨a,t,pr,i,fl,dM,s,d,o,b,e_⟩,hp,h⟩:=bV h;have HB:=gj w;have HC:=aa.mk hC;have HL:=aa.mk hL;have HP:=aa.mk hp;have HF:=aa.mk h;have eI:aa ((Try.prog.info? 73).map (·.size)=some 10):=⟨by kernel_rfl⟩
 clear hC hL h hp
 go_enter Try.func34,Try.ntmps34
 go_wp2_with fail
 refine (cX.calls k A c l a t pr i fl dM s d o b e_ _ (Kd.aU HC.out HB.out) HL.out HP.out).mono ?_;rintro ev w1 ⟨vo,vb,rfl,ho,qn,hb⟩;have bQ:=lD ho HB;obtain ⟨Ao,co,rfl,_,_⟩:=Kd.bW ho;clear ho;have bC:=lD qn HB;obtain ⟨Ab,cb,rfl,_,_⟩:=Kd.bW qn;clear qn;have ah:=hb;replace HB:=mB HB ah;clear ah;clear hb HP bQ bC
 (try dsimp only)
 go_upto_region 2 with (((refine eu rfl rfl rfl rfl rfl eI.out rfl (by simp [Value.oneCell']) ?_);intro fB gH cO))
 revert fB gH cO;intro w2 gH cO;have aT:aa (w2.heap[w1.heap.size]?=some (.cells #[.int .u8 a,.int .u8 t,.int .u8 pr,.int .u16 i,.int .u8 fl,.int .u16 dM,.int .u32 s,.int .u32 d,.slice Ao o.length co,.slice Ab b.length cb] 73 (0,0))):=⟨gH⟩
 have lE:=wN HB;have ah:=cO;replace HB:=mB HB ah;clear ah;clear gH cO;generalize w1.heap.size=gp at aT lE|-
 have RD:w2.cell? ⟨gp,1,none⟩=some (.int .u8 t):=(aE aT.out 1).trans rfl;have H:=HF.out;clear HF
 (try dsimp only at H)
 by_cases ce:e_=0
 ·have Bl:(e_==0)=true:=fH ce
  have Je:(e_ !=0)=false:=by rw [bne,Bl];rfl
  rw [au ce] at H
  clear ce
  by_cases ct:t=0
  ·have ct1:(t==0)=true:=fH ct
   have ct2:(t !=0)=false:=by rw [bne,ct1];rfl
   rw [au ct] at H
   clear ct;simp only [Option.some.injEq,Prod.mk.injEq] at H
   obtain ⟨rfl,rfl⟩:=H
   (try dsimp only)
   go_wp2
   (try simp only [Exit.inBlock,Exit.then])
   go_ret2
   exact ⟨_,rfl,Kd.cl _ _ _ _ _,HB.out⟩
  ·have ct1:(t==0)=false:=fc ct
   have ct2:(t !=0)=true:=bne_iff_ne.2 ct;rw [ax ct] at H
   clear ct;obtain ⟨⟨x,hd⟩,hx,H⟩:=bV H;dsimp only at H
   have HG:=aa.mk H;clear H
   (try dsimp only)
   go_wp2_with fail
   clear RD;refine (iY.calls A c l x hd _ (Kd.aU HC.out HB.out) HL.out hx).mono ?_;rintro ev w3 ⟨vx,rfl,ho,hb⟩;have nk:=aa.mk (Kd.bP ho (af HB.out));clear ho hx;have ah:=hb;replace HB:=mB HB ah;replace aT:=mX aT ah;clear ah;clear aT;clear hb;have H:=HG.out;clear HG
   by_cases hxl:12<=x.length /\ 0<=hd /\ hd<=(x.length:Int)
   case neg=>rw [ax hxl] at H;cases H
   rw [au hxl] at H
   obtain ⟨FL,hd0,hdx⟩:=hxl;obtain ⟨m,rfl⟩:∃ m:Nat,hd=(m:Int):=⟨hd.toNat,(Int.toNat_of_nonneg hd0).symm⟩
   rw [Int.toNat_natCast] at H
   obtain ⟨r,hr,H⟩:=bV H;simp only [Option.some.injEq,Prod.mk.injEq] at H
   obtain ⟨rfl,rfl⟩:=H;obtain ⟨go,cap,rfl,hgo,_,_⟩:=Kd.z9 nk.out (show 0<x.length by omega);obtain ⟨hc0,hf0⟩:=Kd.mO (0:Int) nk.out ((8:Nat):Int) (by omega) (by omega);have Xy:=Kd.FC nk.out ((8:Nat):Int) ((rd x 8 - 1) % 256);rw [Int.toNat_natCast] at hc0 hf0 Xy
   have HS0:aa (w3.cell? ⟨go,8,none⟩=some (.int .u8 (rd x 8))):=⟨hc0⟩
   have HF0:=aa.mk hf0;have HRn:=aa.mk Xy;have HGO:=aa.mk hgo;have HNX:=aa.mk FL;have HMX:aa (m<=x.length):=⟨by omega⟩
   have HRR:=aa.mk hr;have b0:decide (8<(x.length:Int))=true:=bS (by omega);have b1:decide (8<x.length)=true:=bS (by omega);have b6:((x.length:Int)<=8)=False:=eq_false (by omega);have b7:(x.length<=8)=False:=eq_false (by omega);have b8:((8:Int)<(x.length:Int))=True:=eq_true (by omega);clear hc0 hf0 Xy hgo FL hd0 hdx hr;have hs0:=HS0.out;have KO:=HF0.out
   (try dsimp only)
   go_upto_region 8 with ((refine mQ rfl rfl (w1:=w3.setCell ⟨go,8,none⟩ (.int .u8 ((rd x 8 - 1) % 256))) ?fq ?_);(case fq=>first|(go_simp;done)|(go_simp;rfl)))
   clear hs0 KO HS0 HF0 b0 b1 b6 b7 b8;have gX:=aa.mk (kS.below (kS.setCell w3 go 8 (.int .u8 ((rd x 8 - 1) % 256))) HB.out HGO.out);clear HB nk;have HB:=gX;clear gX;generalize w3.setCell ⟨go,8,none⟩ (.int .u8 ((rd x 8 - 1) % 256))=w9 at HB HRn|-
   go_wp2_with fail
   refine (rI.calls k go x.length cap m (x.set 8 ((rd x 8 - 1) % 256)) r w _ HRn.out HB.out HGO.out HNX.out HMX.out HRR.out).mono ?_;rintro ev j4 ⟨rfl,ho,hb⟩;have Lo:=aa.mk ho;have gX:=aa.mk hb;clear ho hb HRn HRR
   (try dsimp only)
   go_wp2
   (try simp only [Exit.inBlock,Exit.then])
   go_ret2
   exact ⟨_,rfl,Lo.out,gX.out⟩
 ·have Bl:(e_==0)=false:=fc ce
  have Je:(e_ !=0)=true:=bne_iff_ne.2 ce;rw [ax ce] at H
  clear ce;simp only [Option.some.injEq,Prod.mk.injEq] at H
  obtain ⟨rfl,rfl⟩:=H
  (try dsimp only)
  go_wp2
  (try simp only [Exit.inBlock,Exit.then])
  go_ret2
  exact ⟨_,rfl,Kd.cl _ _ _ _ _,HB.out⟩
attribute [local go_sem] dF dG eG eH cQ cR dH dI
def bq.f (l0:List Int) (a1:Int):Option (List Int):=(some (([(a1 / 256) % 256,(a1) % 256]:List Int):List Int)).bind fun BC=>(if l0.length+BC.length<140737488355328 then (some (l0++BC)) else (none))
theorem bq.calls (BD:Nat ->Prop) (vP:Value) (l0:List Int) (a1:Int) (r:List Int) (w0 w:World) (hB:Below w0.heap.size w0 w) (gE:Kd.R (Kd.int .u8) 5 w w0.heap.size BD vP l0) (h:bq.f l0 a1=some r):
  Calls Try.prog 83 #[vP,.int .u16 a1] w fun e w'=>∃ o6:Value,e= .returned (o6) /\ Kd.R (Kd.int .u8) 5 w' w0.heap.size (fun k_=>(BD k_ \/ w.heap.size<=k_)) o6 r /\ Below w0.heap.size w0 w' /\ Kept w w' (fun k_=>BD k_):=by
 have Lr:=aa.mk (show Kd.R (Kd.int .u8) 5 w w0.heap.size (fun k_=>(BD k_ \/ w.heap.size<=k_)) vP l0 from Kd.dm gE (fun k_ hk=>(.inl hk)));have HK:=aa.mk (Kept.refl w (fun k_=>BD k_));have HW0:=aa.mk hB.size;have HB:=aa.mk hB;clear hB;have H:((some (([(a1 / 256) % 256,(a1) % 256]:List Int):List Int)).bind fun BC=>(if l0.length+BC.length<140737488355328 then (some (l0++BC)) else (none)))=some r:=h;clear h;obtain ⟨BC,Jq⟩:∃ y_:List Int,y_=(([(a1 / 256) % 256,(a1) % 256]:List Int)):=⟨_,rfl⟩
 replace H:(if l0.length+BC.length<140737488355328 then (some (l0++BC)) else (none))=some r:=by first|(rw [Jq];with_reducible exact H)|(have kP:=(bA _ _).symm.trans H;rw [Jq];with_reducible exact kP)|(have kP:=(bA _ _).symm.trans H;with_reducible exact kP)|with_reducible exact H|(rw [Jq];exact H)|exact H
 have Xz:=aa.mk Jq;clear Jq
 by_cases c3:l0.length+BC.length<140737488355328
 ·rw [au c3] at H
  have Aa4:=aa.mk c3;clear c3;obtain ⟨Ank,Jr⟩:∃ y_:List Int,y_=(l0++BC):=⟨_,rfl⟩
  replace H:(some Ank)=some r:=by first|(rw [Jr];with_reducible exact H)|(have kP:=(bA _ _).symm.trans H;rw [Jr];with_reducible exact kP)|(have kP:=(bA _ _).symm.trans H;with_reducible exact kP)|with_reducible exact H|(rw [Jr];exact H)|exact H
  have AfP:=aa.mk Jr;clear Jr;obtain rfl:=cS H
  go_enter Try.func83,Try.ntmps83
  go_wp2_with (first|((with_reducible refine aA (N:=11) rfl ?_);refine Kd.qq (Kd.int .u8) _ 5 ?hg (N:=11) ?hd (xs:=([(a1 / 256) % 256,(a1) % 256]:List Int)) (inner:=[.int .u8 ((a1 / 256) % 256),.int .u8 ((a1) % 256)]) (ok:=fun _=>True) (rq:=fun _=>True) ?hr ?hp (fun _ hk=>hk) trivial (Below.refl _ _) (Nat.le_refl _) (by simp) ?_;(case hd=>rfl);(case hg=>rfl);(case hr=>first|(go_simp;done)|(go_simp;simp only [IntKind.wrap_u8,IntKind.wrap_u16,IntKind.wrap_u32];done)|(go_simp;rfl));(case hp=>exact (cI.one (show Kd.M (Kd.int .u8) _ _ _ ((a1 / 256) % 256) [.int .u8 ((a1 / 256) % 256)] from rfl) (cI.one (show Kd.M (Kd.int .u8) _ _ _ ((a1) % 256) [.int .u8 ((a1) % 256)] from rfl) (cI.none _ _))));intro AtU w4 Ol hb gJ iM;clear gJ iM;(first|rw [<- Xz.out] at Ol|(simp only [Int.reduceToNat] at Ol;rw [<- Xz.out] at Ol));have aJ:=aa.mk (Kd.mU (Kd.rz Lr) (Kd.kf Ol) hb);have aQ:=aa.mk (Kd.bP (Kd.ry (Kd.yD (M:=fun k_=>(BD k_ \/ w.heap.size<=k_)) Ol (by first|exact HK.out.1|exact (show Kept w _ (fun k_=>BD k_) from by repeat (first|(with_reducible first|exact HK.out|apply Kept.alloc|apply Kept.drewN|apply Kept.drew)|exact HK.out)).1) (fun k_ h_=> .inr h_)) (Kd.oL (Kd.rz Lr))) (af (bz HB)));have bt:=aa.mk (Kept.below (S:=(fun k_=>BD k_)) (by repeat (first|(with_reducible first|exact HK.out|apply Kept.alloc|apply Kept.drewN|apply Kept.drew)|exact HK.out)) hb);have cr:=aa.mk (aq (bz HB) hb);clear Lr;clear HK;clear HB;have Lr:=aJ;have E5:=aQ;have HK:=bt;have HB:=cr;clear aJ aQ bt cr;clear hb Ol;obtain ⟨Ao7,co7,eo7⟩:=Kd.da E5.out;subst eo7)|((with_reducible refine fo (b:= .append) (xs:= #[.tmp 5,.tmp 11]) rfl ?_);at_builtin;refine Kd.gC (Kd.int .u8) (w0:=w0) w0.heap.size rfl (.tmp 5) (.tmp 11) 23 5 (.int .u8 0) 1 rfl Try.underlying23 gB rfl (by decide) (by omega) vP l0 BC _ _ _ (fun k_=>(BD k_ \/ w.heap.size<=k_) /\ some k_≠(.slice Ao7 BC.length co7:Value).ownBlock) (fun _=>False) rfl rfl ?aO ?aR (fun _ _ h=>h) (fun _ h=>h.elim) ?aF ?aB ?aS ?aL ?_;(case aR=>repeat (first|exact (Kd.av E5.out).2.2|(with_reducible refine Kd.fD ?_ _)|(with_reducible refine Kd.fj ?_ _)|(with_reducible refine Kd.gP ?_)));(case aB=>exact bz HB);(case aF=>exact (fun k_ hk=>⟨(.inr (Nat.le_trans (by first|exact HK.out.1|exact (show Kept w _ (fun k_=>BD k_) from by repeat (first|(with_reducible first|exact HK.out|apply Kept.alloc|apply Kept.drewN|apply Kept.drew)|exact HK.out)).1) hk)),Kd.mN (Kd.oL (Kd.rz E5)) k_ hk⟩));(case aO=>exact (Kd.rz Lr));(case aS=>exact (af (bz HB)));(case aL=>have:=Aa4.out;omega);intro AtV w6 ho hb hg hat;rw [<- AfP.out] at ho;have aJ:=aa.mk (Kd.nV (ok:=(fun k_=>(BD k_ \/ w.heap.size<=k_))) (by (with_reducible repeat (first|apply Kd.eX|apply Kd.eT|apply Kd.eY));exact Kd.dm E5.out (fun _ hk=>⟨hk.1.1,hk.2⟩)) hg hat);have aQ:=aa.mk (hb);have bt:=aa.mk (Kept.Cq (S:=(fun k_=>BD k_)) hg (by repeat (first|(with_reducible first|exact HK.out|apply Kept.alloc|apply Kept.drewN|apply Kept.drew)|exact HK.out)) (fun k_ e_=>(Lr.out.1 k_ e_).1));have cr:=aa.mk (ho);clear E5;clear HB;clear HK;clear Lr;have E5:=aJ;have HB:=aQ;have HK:=bt;have AfR:=cr;clear aJ aQ bt cr;clear ho hb hg hat))
  go_ret
  exact ⟨_,by first|rfl|(simp [aj,ak]<;>rfl)|(simp [*,aj,ak]<;>rfl),by (with_reducible repeat (first|apply Kd.eX|apply Kd.eT|apply Kd.eY));exact Kd.dm AfR.out (fun _ hk=>hk.1),bz HB,by repeat (first|(with_reducible first|exact HK.out|apply Kept.alloc|apply Kept.drewN|apply Kept.drew)|exact HK.out)⟩
 ·rw [ax c3] at H
  cases H
def dK.f (l0:List Int) (a1:Int):Option (List Int):=(some (([(a1 / 16777216) % 256,(a1 / 65536) % 256,(a1 / 256) % 256,(a1) % 256]:List Int):List Int)).bind fun BF=>(if l0.length+BF.length<140737488355328 then (some (l0++BF)) else (none))
theorem dK.calls (BD:Nat ->Prop) (vP:Value) (l0:List Int) (a1:Int) (r:List Int) (w0 w:World) (hB:Below w0.heap.size w0 w) (gE:Kd.R (Kd.int .u8) 5 w w0.heap.size BD vP l0) (h:dK.f l0 a1=some r):
  Calls Try.prog 84 #[vP,.int .u32 a1] w fun e w'=>∃ o6:Value,e= .returned (o6) /\ Kd.R (Kd.int .u8) 5 w' w0.heap.size (fun k_=>(BD k_ \/ w.heap.size<=k_)) o6 r /\ Below w0.heap.size w0 w' /\ Kept w w' (fun k_=>BD k_):=by
 have Lr:=aa.mk (show Kd.R (Kd.int .u8) 5 w w0.heap.size (fun k_=>(BD k_ \/ w.heap.size<=k_)) vP l0 from Kd.dm gE (fun k_ hk=>(.inl hk)));have HK:=aa.mk (Kept.refl w (fun k_=>BD k_));have HW0:=aa.mk hB.size;have HB:=aa.mk hB;clear hB;have H:((some (([(a1 / 16777216) % 256,(a1 / 65536) % 256,(a1 / 256) % 256,(a1) % 256]:List Int):List Int)).bind fun BF=>(if l0.length+BF.length<140737488355328 then (some (l0++BF)) else (none)))=some r:=h;clear h;obtain ⟨BF,Js⟩:∃ y_:List Int,y_=(([(a1 / 16777216) % 256,(a1 / 65536) % 256,(a1 / 256) % 256,(a1) % 256]:List Int)):=⟨_,rfl⟩
 replace H:(if l0.length+BF.length<140737488355328 then (some (l0++BF)) else (none))=some r:=by first|(rw [Js];with_reducible exact H)|(have kP:=(bA _ _).symm.trans H;rw [Js];with_reducible exact kP)|(have kP:=(bA _ _).symm.trans H;with_reducible exact kP)|with_reducible exact H|(rw [Js];exact H)|exact H
 have XA:=aa.mk Js;clear Js
 by_cases c3:l0.length+BF.length<140737488355328
 ·rw [au c3] at H
  have Aa4:=aa.mk c3;clear c3;obtain ⟨Anl,Jt⟩:∃ y_:List Int,y_=(l0++BF):=⟨_,rfl⟩
  replace H:(some Anl)=some r:=by first|(rw [Jt];with_reducible exact H)|(have kP:=(bA _ _).symm.trans H;rw [Jt];with_reducible exact kP)|(have kP:=(bA _ _).symm.trans H;with_reducible exact kP)|with_reducible exact H|(rw [Jt];exact H)|exact H
  have AfS:=aa.mk Jt;clear Jt;obtain rfl:=cS H
  go_enter Try.func84,Try.ntmps84
  go_wp2_with (first|((with_reducible refine aA (N:=17) rfl ?_);refine Kd.qq (Kd.int .u8) _ 5 ?hg (N:=17) ?hd (xs:=([(a1 / 16777216) % 256,(a1 / 65536) % 256,(a1 / 256) % 256,(a1) % 256]:List Int)) (inner:=[.int .u8 ((a1 / 16777216) % 256),.int .u8 ((a1 / 65536) % 256),.int .u8 ((a1 / 256) % 256),.int .u8 ((a1) % 256)]) (ok:=fun _=>True) (rq:=fun _=>True) ?hr ?hp (fun _ hk=>hk) trivial (Below.refl _ _) (Nat.le_refl _) (by simp) ?_;(case hd=>rfl);(case hg=>rfl);(case hr=>first|(go_simp;done)|(go_simp;simp only [IntKind.wrap_u8,IntKind.wrap_u16,IntKind.wrap_u32];done)|(go_simp;rfl));(case hp=>exact (cI.one (show Kd.M (Kd.int .u8) _ _ _ ((a1 / 16777216) % 256) [.int .u8 ((a1 / 16777216) % 256)] from rfl) (cI.one (show Kd.M (Kd.int .u8) _ _ _ ((a1 / 65536) % 256) [.int .u8 ((a1 / 65536) % 256)] from rfl) (cI.one (show Kd.M (Kd.int .u8) _ _ _ ((a1 / 256) % 256) [.int .u8 ((a1 / 256) % 256)] from rfl) (cI.one (show Kd.M (Kd.int .u8) _ _ _ ((a1) % 256) [.int .u8 ((a1) % 256)] from rfl) (cI.none _ _))))));intro AtW w4 Ol hb gJ iM;clear gJ iM;(first|rw [<- XA.out] at Ol|(simp only [Int.reduceToNat] at Ol;rw [<- XA.out] at Ol));have aJ:=aa.mk (Kd.mU (Kd.rz Lr) (Kd.kf Ol) hb);have aQ:=aa.mk (Kd.bP (Kd.ry (Kd.yD (M:=fun k_=>(BD k_ \/ w.heap.size<=k_)) Ol (by first|exact HK.out.1|exact (show Kept w _ (fun k_=>BD k_) from by repeat (first|(with_reducible first|exact HK.out|apply Kept.alloc|apply Kept.drewN|apply Kept.drew)|exact HK.out)).1) (fun k_ h_=> .inr h_)) (Kd.oL (Kd.rz Lr))) (af (bz HB)));have bt:=aa.mk (Kept.below (S:=(fun k_=>BD k_)) (by repeat (first|(with_reducible first|exact HK.out|apply Kept.alloc|apply Kept.drewN|apply Kept.drew)|exact HK.out)) hb);have cr:=aa.mk (aq (bz HB) hb);clear Lr;clear HK;clear HB;have Lr:=aJ;have E6:=aQ;have HK:=bt;have HB:=cr;clear aJ aQ bt cr;clear hb Ol;obtain ⟨Ao7,co7,eo7⟩:=Kd.da E6.out;subst eo7)|((with_reducible refine fo (b:= .append) (xs:= #[.tmp 5,.tmp 17]) rfl ?_);at_builtin;refine Kd.gC (Kd.int .u8) (w0:=w0) w0.heap.size rfl (.tmp 5) (.tmp 17) 23 5 (.int .u8 0) 1 rfl Try.underlying23 gB rfl (by decide) (by omega) vP l0 BF _ _ _ (fun k_=>(BD k_ \/ w.heap.size<=k_) /\ some k_≠(.slice Ao7 BF.length co7:Value).ownBlock) (fun _=>False) rfl rfl ?aO ?aR (fun _ _ h=>h) (fun _ h=>h.elim) ?aF ?aB ?aS ?aL ?_;(case aR=>repeat (first|exact (Kd.av E6.out).2.2|(with_reducible refine Kd.fD ?_ _)|(with_reducible refine Kd.fj ?_ _)|(with_reducible refine Kd.gP ?_)));(case aB=>exact bz HB);(case aF=>exact (fun k_ hk=>⟨(.inr (Nat.le_trans (by first|exact HK.out.1|exact (show Kept w _ (fun k_=>BD k_) from by repeat (first|(with_reducible first|exact HK.out|apply Kept.alloc|apply Kept.drewN|apply Kept.drew)|exact HK.out)).1) hk)),Kd.mN (Kd.oL (Kd.rz E6)) k_ hk⟩));(case aO=>exact (Kd.rz Lr));(case aS=>exact (af (bz HB)));(case aL=>have:=Aa4.out;omega);intro AtX w6 ho hb hg hat;rw [<- AfS.out] at ho;have aJ:=aa.mk (Kd.nV (ok:=(fun k_=>(BD k_ \/ w.heap.size<=k_))) (by (with_reducible repeat (first|apply Kd.eX|apply Kd.eT|apply Kd.eY));exact Kd.dm E6.out (fun _ hk=>⟨hk.1.1,hk.2⟩)) hg hat);have aQ:=aa.mk (hb);have bt:=aa.mk (Kept.Cq (S:=(fun k_=>BD k_)) hg (by repeat (first|(with_reducible first|exact HK.out|apply Kept.alloc|apply Kept.drewN|apply Kept.drew)|exact HK.out)) (fun k_ e_=>(Lr.out.1 k_ e_).1));have cr:=aa.mk (ho);clear E6;clear HB;clear HK;clear Lr;have E6:=aJ;have HB:=aQ;have HK:=bt;have AfT:=cr;clear aJ aQ bt cr;clear ho hb hg hat))
  go_ret
  exact ⟨_,by first|rfl|(simp [aj,ak]<;>rfl)|(simp [*,aj,ak]<;>rfl),by (with_reducible repeat (first|apply Kd.eX|apply Kd.eT|apply Kd.eY));exact Kd.dm AfT.out (fun _ hk=>hk.1),bz HB,by repeat (first|(with_reducible first|exact HK.out|apply Kept.alloc|apply Kept.drewN|apply Kept.drew)|exact HK.out)⟩
 ·rw [ax c3] at H
  cases H
def bO.l0:Nat ->Int ->Option (Int)
 |0,_=>none
 |k+1,x0=>if (x0 / 65536)=0 then (some (IntKind.u16.wrap (x0))) else (bO.l0 k (((x0 / 65536)+(Go.bits .and .u32 x0 65535)) % 4294967296))
def bO.f (k:Nat) (a0:Int):Option (Int):=bO.l0 k a0
theorem bO.calls (k:Nat) (a0:Int) (r:Int) (w:World) (h:bO.f k a0=some r):
  Calls Try.prog 79 #[.int .u32 a0] w fun e w'=>e= .returned (.int .u16 r) /\ bF w w':=by
 have H:(bO.l0 k a0)=some r:=h;clear h;have H':=aa.mk H;clear H
 go_enter Try.func79,Try.ntmps79
 go_wp2
 go_loopg [0] k (fun kq v0 w'=>∃ (qC:Int),v0= .int .u32 qC /\ aa (bO.l0 kq qC=some r) /\ aa (kq<=k) /\ bF w w')
 case atStart=>exact ⟨(a0),(by first|rfl|(simp;done)|(simp [*];done)),H',⟨Nat.le_refl _⟩,by repeat (first|exact bF.refl _|apply bF.step)⟩
 case round=>
  clear H';obtain ⟨qC,rfl,HA,z4,⟨m1,rfl⟩⟩:=hrel
  cases gk with
  |zero=>exact absurd HA.out (by simp [bO.l0])
  |succ k1=>
   have H:=HA.out;clear HA;simp only [bO.l0] at H
   by_cases c2:(qC / 65536)=0
   ·rw [au c2] at H
    have kg:((qC / 65536)==0)=true:=fH c2;have mG:((qC / 65536) !=0)=false:=kO c2;clear c2;obtain rfl:=cS H
    go_wp2
    go_ret
    exact ⟨by first|rfl|(simp;done)|(simp [*];done),by repeat (first|exact bF.refl _|apply bF.step)⟩
   ·rw [ax c2] at H
    have kg:((qC / 65536)==0)=false:=fc c2;have mG:((qC / 65536) !=0)=true:=lA c2;have H':=aa.mk H;clear H
    go_wp2
    go_roundg k1
    case measure=>have:=z4.out;omega
    case rel=>exact ⟨(((qC / 65536)+(Go.bits .and .u32 qC 65535)) % 4294967296),(by first|rfl|(simp;done)|(simp [*];done)),H',⟨by have:=z4.out;omega⟩,by repeat (first|exact bF.refl _|apply bF.step)⟩
def eK.l0:Nat ->List Int ->List Int ->Int ->Option (List Int)
 |0,_,_,_=>none
 |k+1,x0,x3,x4=>if x4<(x0.length:Int) then (if 0<=x4 then (if (wrap64 (x4+1))<(x0.length:Int) then (if 0<=(wrap64 (x4+1)) then (if x3.length<70368744177664 then (eK.l0 k x0 (x3++[Go.bits .or .u16 (IntKind.u16.wrap ((IntKind.u16.wrap (rd x0 x4))*256)) (IntKind.u16.wrap (rd x0 (wrap64 (x4+1))))]) (wrap64 (x4+2))) else (none)) else (none)) else (if x3.length<70368744177664 then (eK.l0 k x0 (x3++[IntKind.u16.wrap ((IntKind.u16.wrap (rd x0 x4))*256)]) (wrap64 (x4+2))) else (none))) else (none)) else (some x3)
def eK.f (k:Nat) (l0:List Int):Option (List Int):=eK.l0 k l0 ([]:List Int) 0
theorem eK.calls (k:Nat) (A0:Option Addr) (c0:Nat) (l0:List Int) (r:List Int) (w:World) (hr0:Kd.C (Kd.int .u8) w A0 l0.length l0) (hc0:l0.length<=c0) (h:eK.f k l0=some r):
  Calls Try.prog 113 #[.slice A0 l0.length c0] w fun e w'=>∃ o6:Value,e= .returned (o6) /\ Kd.R (Kd.int .u16) 45 w' w.heap.size (fun _=>True) o6 r /\ Below w.heap.size w w':=by
 have gh:=aa.mk hr0;have jC:=aa.mk hc0;clear hr0 hc0;have HB:=gj w;have H:(eK.l0 k l0 ([]:List Int) 0)=some r:=h;clear h;have H':=aa.mk H;clear H
 go_enter Try.func113,Try.ntmps113
 go_wp2
 go_loopg [3,4] k (fun kq v3 v4 w'=>∃ (nC:List Int) (qb:Int),v4= .int .i64 qb /\ aa (eK.l0 kq l0 nC qb=some r) /\ aa (kq<=k) /\ aa (Kd.R (Kd.int .u16) 45 w' w.heap.size (fun _=>True) v3 nC) /\ aa (Below w.heap.size w w'))
 case atStart=>exact ⟨(([]:List Int)),(0),(by first|rfl|(simp;done)|(simp [*];done)),H',⟨Nat.le_refl _⟩,⟨by first|exact Kd.cl _ _ _ _ _|exact Kd.ju _ _ _ _ _|exact Kd.jv _ _ _ _ _|exact Kd.jr _ _ _ _ _|exact Kd.js _ _ _ _ _⟩,⟨bz HB⟩⟩
 case round=>
  clear H';obtain ⟨nC,qb,rfl,HA,z4,CE,HB⟩:=hrel
  cases gk with
  |zero=>exact absurd HA.out (by simp [eK.l0])
  |succ k1=>
   have H:=HA.out;clear HA;simp only [eK.l0] at H
   by_cases c2:qb<(l0.length:Int)
   ·rw [au c2] at H
    have kg:decide (qb<(l0.length:Int))=true:=bS c2;clear c2
    by_cases c3:0<=qb
    ·rw [au c3] at H
     have oY:decide (0<=qb)=true:=bS c3;clear c3
     by_cases c4:(wrap64 (qb+1))<(l0.length:Int)
     ·rw [au c4] at H
      have mH:decide ((wrap64 (qb+1))<(l0.length:Int))=true:=bS c4;clear c4;obtain ⟨wU,zk⟩:∃ j_:Int,(wrap64 (qb+1))=j_:=⟨_,rfl⟩
      replace H:(if 0<=(wU) then (if nC.length<70368744177664 then (eK.l0 k1 l0 (nC++[Go.bits .or .u16 (IntKind.u16.wrap ((IntKind.u16.wrap (rd l0 qb))*256)) (IntKind.u16.wrap (rd l0 (wU)))]) (wrap64 (qb+2))) else (none)) else (none))=some r:=by first|(rw [zk] at H;exact H)|(simp only [zk] at H|-;exact H)
      (try rw [zk] at mH)
      have Ww:(IntKind.i64.wrap (qb+1))=wU:=(jk _).trans zk
      by_cases c6:0<=(wU)
      ·rw [au c6] at H
       have sG:decide (0<=(wU))=true:=bS c6;clear c6
       by_cases c7:nC.length<70368744177664
       ·rw [au c7] at H
        have FJ:=aa.mk c7;clear c7;obtain ⟨Anm,RE⟩:∃ y_:List Int,y_=(nC++[Go.bits .or .u16 (IntKind.u16.wrap ((IntKind.u16.wrap (rd l0 qb))*256)) (IntKind.u16.wrap (rd l0 (wU)))]):=⟨_,rfl⟩
        rw [<- RE] at H
        have AfU:=aa.mk RE;clear RE;have H':=aa.mk H;clear H;have Ls:0<=(qb:Int):=gD;have Lt:qb<(l0.length:Int):=gD;obtain ⟨XB,Aa5,vQ⟩:=Kd.dB gh.out qb Ls Lt
        cases Aa5
        replace vQ:=(HB.out.cell (dA w _ vQ)).trans vQ;replace Ls:=eq_true Ls;replace Lt:=eq_true Lt;have Aa6:0<=((wU):Int):=gD;have Aa7:(wU)<(l0.length:Int):=gD;obtain ⟨AfV,Ann,GI⟩:=Kd.dB gh.out (wU) Aa6 Aa7;obtain rfl:XB=AfV:=(by injection Ann)
        replace GI:=(HB.out.cell (dA w _ GI)).trans GI;replace Aa6:=eq_true Aa6;replace Aa7:=eq_true Aa7
        go_wp2_with (first|((with_reducible refine fo (b:= .append) (xs:= #[.tmp 31,.tmp 33]) rfl ?_);at_builtin;refine Kd.yV (Kd.int .u16) (w0:=w) w.heap.size rfl (.tmp 31) (.tmp 33) 22 45 (.int .u16 0) 2 rfl Try.underlying22 FI rfl (by decide) (by omega) u3 nC (Go.bits .or .u16 (IntKind.u16.wrap ((IntKind.u16.wrap (rd l0 qb))*256)) (IntKind.u16.wrap (rd l0 (wU)))) [.int .u16 (Go.bits .or .u16 (IntKind.u16.wrap ((IntKind.u16.wrap (rd l0 qb))*256)) (IntKind.u16.wrap (rd l0 (wU))))] (fun _=>True) (fun _=>False) rfl rfl ?aP (fun _ hk=>hk.elim) ?aF ?aO ?aB ?aS ?aL ?_;(case aP=>exact rfl);(case aB=>exact bz HB);(case aF=>exact (fun _ _=>trivial));(case aO=>exact (Kd.rz CE));(case aS=>exact (af (bz HB)));(case aL=>have:=FJ.out;omega);intro AtY w8 ho hb hg hat;rw [<- AfU.out] at ho;have aJ:=aa.mk (hb);have aQ:=aa.mk (ho);clear HB;clear CE;have HB:=aJ;have AfW:=aQ;clear aJ aQ;clear ho hb hg hat))
        go_roundg k1
        case measure=>have:=z4.out;omega
        case rel=>exact ⟨(Anm),(wrap64 (qb+2)),(by first|rfl|(simp;done)|(simp [*];done)),H',⟨by have:=z4.out;omega⟩,⟨Kd.rz AfW⟩,⟨bz HB⟩⟩
       ·rw [ax c7] at H
        cases H
      ·rw [ax c6] at H
       cases H
     ·rw [ax c4] at H
      have mH:decide ((wrap64 (qb+1))<(l0.length:Int))=false:=gO c4;clear c4
      by_cases c9:nC.length<70368744177664
      ·rw [au c9] at H
       have P9:=aa.mk c9;clear c9;obtain ⟨Ano,RF⟩:∃ y_:List Int,y_=(nC++[IntKind.u16.wrap ((IntKind.u16.wrap (rd l0 qb))*256)]):=⟨_,rfl⟩
       rw [<- RF] at H
       have AfX:=aa.mk RF;clear RF;have H':=aa.mk H;clear H;have Ls:0<=(qb:Int):=gD;have Lt:qb<(l0.length:Int):=gD;obtain ⟨XB,Aa5,vQ⟩:=Kd.dB gh.out qb Ls Lt
       cases Aa5
       replace vQ:=(HB.out.cell (dA w _ vQ)).trans vQ;replace Ls:=eq_true Ls;replace Lt:=eq_true Lt
       go_wp2_with (first|((with_reducible refine fo (b:= .append) (xs:= #[.tmp 31,.tmp 33]) rfl ?_);at_builtin;refine Kd.yV (Kd.int .u16) (w0:=w) w.heap.size rfl (.tmp 31) (.tmp 33) 22 45 (.int .u16 0) 2 rfl Try.underlying22 FI rfl (by decide) (by omega) u3 nC (IntKind.u16.wrap ((IntKind.u16.wrap (rd l0 qb))*256)) [.int .u16 (IntKind.u16.wrap ((IntKind.u16.wrap (rd l0 qb))*256))] (fun _=>True) (fun _=>False) rfl rfl ?aP (fun _ hk=>hk.elim) ?aF ?aO ?aB ?aS ?aL ?_;(case aP=>exact rfl);(case aB=>exact bz HB);(case aF=>exact (fun _ _=>trivial));(case aO=>exact (Kd.rz CE));(case aS=>exact (af (bz HB)));(case aL=>have:=P9.out;omega);intro AtZ j4 ho hb hg hat;rw [<- AfX.out] at ho;have aJ:=aa.mk (hb);have aQ:=aa.mk (ho);clear HB;clear CE;have HB:=aJ;have AfY:=aQ;clear aJ aQ;clear ho hb hg hat))
       go_roundg k1
       case measure=>have:=z4.out;omega
       case rel=>exact ⟨(Ano),(wrap64 (qb+2)),(by first|rfl|(simp;done)|(simp [*];done)),H',⟨by have:=z4.out;omega⟩,⟨Kd.rz AfY⟩,⟨bz HB⟩⟩
      ·rw [ax c9] at H
       cases H
    ·rw [ax c3] at H
     cases H
   ·rw [ax c2] at H
    have kg:decide (qb<(l0.length:Int))=false:=gO c2;clear c2;obtain rfl:=cS H
    go_wp2
    go_ret
    exact ⟨_,by first|rfl|(simp [aj,ak]<;>rfl)|(simp [*,aj,ak]<;>rfl),by (with_reducible repeat (first|apply Kd.eX|apply Kd.eT|apply Kd.eY));exact CE.out,bz HB⟩
def bZ.l0:Nat ->Int ->List Int ->Int ->Option (Int)
 |0,_,_,_=>none
 |k+1,x5,x6,x7=>if x7<(x6.length:Int) then (if 0<=x7 then (if (IntKind.u64.wrap (x5+(IntKind.u64.wrap (rd x6 x7))))>4294967295 then (bZ.l0 k (IntKind.u64.wrap ((IntKind.u64.wrap ((IntKind.u64.wrap (x5+(IntKind.u64.wrap (rd x6 x7)))) - 4294967296))+1)) x6 (wrap64 (x7+1))) else (bZ.l0 k (IntKind.u64.wrap (x5+(IntKind.u64.wrap (rd x6 x7)))) x6 (wrap64 (x7+1)))) else (none)) else (some ((x5) % 4294967296))
def bZ.f (k:Nat) (a0:Int) (l1:List Int):Option (Int):=(eK.f k l1).bind fun xh=>(bZ.l0 k (IntKind.u64.wrap (a0)) xh 0)
theorem bZ.calls (k:Nat) (a0:Int) (A1:Option Addr) (c1:Nat) (l1:List Int) (r:Int) (w:World) (hr1:Kd.C (Kd.int .u8) w A1 l1.length l1) (hc1:l1.length<=c1) (h:bZ.f k a0 l1=some r):
  Calls Try.prog 80 #[.int .u32 a0,.slice A1 l1.length c1] w fun e w'=>e= .returned (.int .u32 r) /\ Below w.heap.size w w':=by
 have HR1:=aa.mk hr1;have HC1:=aa.mk hc1;clear hr1 hc1;have HB:=gj w;have H:((eK.f k l1).bind fun xh=>(bZ.l0 k (IntKind.u64.wrap (a0)) xh 0))=some r:=h;clear h;replace H:=cZ H;obtain ⟨xh,wE,H⟩:=H
 (try dsimp -simprocs only at H)
 have A3:=aa.mk wE;clear wE;have H':=aa.mk H;clear H
 go_enter Try.func80,Try.ntmps80
 go_wp2_with (first|((with_reducible refine ay (f:=113) rfl ?_);refine gL 11 Try.func113 #[.slice A1 l1.length c1] ?_;(with_reducible refine (eK.calls k _ _ l1 xh _ ?aG ?aH A3.out).mono ?_);(case aG=>repeat (first|exact HR1.out|(with_reducible refine Kd.fD ?_ _)|(with_reducible refine Kd.fj ?_ _)|(with_reducible refine Kd.gP ?_)));(case aH=>exact HC1.out);rintro e w4 ⟨Anp,rfl,gE,hb⟩;refine ⟨_,rfl, ?_⟩;have aJ:=aa.mk (Kd.bP gE (af (bz HB)));have aQ:=aa.mk (aq (bz HB) hb);clear HB;have AfZ:=aJ;have HB:=aQ;clear aJ aQ;(try clear hb);(try clear hb2);(try clear hk);(try clear hi);(try clear gE)))
 go_loopg [5,7] k (fun kq v5 v7 w'=>∃ (Ju:Int) (qV:Int),v5= .int .u64 Ju /\ v7= .int .i64 qV /\ aa (bZ.l0 kq Ju xh qV=some r) /\ aa (kq<=k) /\ aa (Kd.R (Kd.int .u16) 45 w' w.heap.size (fun _=>True) Anp xh) /\ aa (Below w.heap.size w w'))
 case atStart=>exact ⟨(IntKind.u64.wrap (a0)),(0),(by first|rfl|(simp;done)|(simp [*];done)),(by first|rfl|(simp;done)|(simp [*];done)),H',⟨Nat.le_refl _⟩,⟨Kd.rz AfZ⟩,⟨bz HB⟩⟩
 case round=>
  clear H'
  try clear c1
  obtain ⟨Ju,qV,rfl,rfl,HA,z4,CX,HB⟩:=hrel
  cases gk with
  |zero=>exact absurd HA.out (by simp [bZ.l0])
  |succ k1=>
   have H:=HA.out;clear HA;simp only [bZ.l0] at H
   by_cases c5:qV<(xh.length:Int)
   ·rw [au c5] at H
    have mS:decide (qV<(xh.length:Int))=true:=bS c5;clear c5
    by_cases c6:0<=qV
    ·rw [au c6] at H
     have sG:decide (0<=qV)=true:=bS c6;clear c6
     by_cases c7:(IntKind.u64.wrap (Ju+(IntKind.u64.wrap (rd xh qV))))>4294967295
     ·rw [au c7] at H
      have Ah:decide (4294967295<(IntKind.u64.wrap (Ju+(IntKind.u64.wrap (rd xh qV)))))=true:=bS c7;clear c7;have H':=aa.mk H;clear H;obtain ⟨Ao8,co8,eo8⟩:=Kd.da CX.out;subst eo8;have Lu:0<=(qV:Int):=gD;have Lv:qV<(xh.length:Int):=gD;obtain ⟨Af0,Aa8,UU⟩:=Kd.dB (Kd.av CX.out).2.2 qV Lu Lv
      cases Aa8
      replace Lu:=eq_true Lu;replace Lv:=eq_true Lv
      go_wp2
      go_roundg k1
      case measure=>have:=z4.out;omega
      case rel=>exact ⟨(IntKind.u64.wrap ((IntKind.u64.wrap ((IntKind.u64.wrap (Ju+(IntKind.u64.wrap (rd xh qV)))) - 4294967296))+1)),(wrap64 (qV+1)),(by first|rfl|(simp;done)|(simp [*];done)),(by first|rfl|(simp;done)|(simp [*];done)),H',⟨by have:=z4.out;omega⟩,⟨Kd.rz CX⟩,⟨bz HB⟩⟩
     ·rw [ax c7] at H
      have Ah:decide (4294967295<(IntKind.u64.wrap (Ju+(IntKind.u64.wrap (rd xh qV)))))=false:=gO c7;clear c7;have H':=aa.mk H;clear H;obtain ⟨Ao9,co9,eo9⟩:=Kd.da CX.out;subst eo9;have Lu:0<=(qV:Int):=gD;have Lv:qV<(xh.length:Int):=gD;obtain ⟨Af0,Aa8,UU⟩:=Kd.dB (Kd.av CX.out).2.2 qV Lu Lv
      cases Aa8
      replace Lu:=eq_true Lu;replace Lv:=eq_true Lv
      go_wp2
      go_roundg k1
      case measure=>have:=z4.out;omega
      case rel=>exact ⟨(IntKind.u64.wrap (Ju+(IntKind.u64.wrap (rd xh qV)))),(wrap64 (qV+1)),(by first|rfl|(simp;done)|(simp [*];done)),(by first|rfl|(simp;done)|(simp [*];done)),H',⟨by have:=z4.out;omega⟩,⟨Kd.rz CX⟩,⟨bz HB⟩⟩
    ·rw [ax c6] at H
     cases H
   ·rw [ax c5] at H
    have mS:decide (qV<(xh.length:Int))=false:=gO c5;clear c5;obtain rfl:=cS H;obtain ⟨At2,At3,Anr⟩:=Kd.da CX.out;subst Anr
    go_wp2
    go_ret
    exact ⟨by first|rfl|(simp [aj,ak]<;>rfl)|(simp [*,aj,ak]<;>rfl),bz HB⟩
def iK.f (k:Nat) (l0:List Int):Option (Int):=(bZ.f k 0 l0).bind fun Lw=>((bO.f k Lw).bind fun RG=>(some (Go.bits .xor .u16 IntKind.u16.max RG)))
theorem iK.calls (k:Nat) (A0:Option Addr) (c0:Nat) (l0:List Int) (r:Int) (w:World) (hr0:Kd.C (Kd.int .u8) w A0 l0.length l0) (hc0:l0.length<=c0) (h:iK.f k l0=some r):
  Calls Try.prog 85 #[.slice A0 l0.length c0] w fun e w'=>e= .returned (.int .u16 r) /\ Below w.heap.size w w':=by
 have zj:IntKind.u16.signed=false:=rfl;have gh:=aa.mk hr0;have jC:=aa.mk hc0;clear hr0 hc0;have HB:=gj w;have H:((bZ.f k 0 l0).bind fun Lw=>((bO.f k Lw).bind fun RG=>(some (Go.bits .xor .u16 IntKind.u16.max RG))))=some r:=h;clear h;replace H:=cZ H;obtain ⟨Lw,uJ,H⟩:=H
 (try dsimp -simprocs only at H)
 have A2:=aa.mk uJ;clear uJ;replace H:=cZ H;obtain ⟨RG,wE,H⟩:=H
 (try dsimp -simprocs only at H)
 have A3:=aa.mk wE;clear wE;obtain rfl:=cS H
 go_enter Try.func85,Try.ntmps85
 go_wp2_with (first|((with_reducible refine ay (f:=80) rfl ?_);refine gL 4 Try.func80 #[.int .u32 0,.slice A0 l0.length c0] ?_;(with_reducible refine (bZ.calls k 0 _ _ l0 Lw _ ?aG ?aH A2.out).mono ?_);(case aG=>repeat (first|exact gh.out|(with_reducible refine Kd.fD ?_ _)|(with_reducible refine Kd.fj ?_ _)|(with_reducible refine Kd.gP ?_)));(case aH=>exact jC.out);rintro e w4 ⟨rfl,hb⟩;refine ⟨_,rfl, ?_⟩;have aJ:=aa.mk (aq (bz HB) hb);clear HB;have HB:=aJ;clear aJ;(try clear hb);(try clear hb2);(try clear hk);(try clear hi))|((with_reducible refine ay (f:=79) rfl ?_);refine gL 5 Try.func79 #[.int .u32 Lw] ?_;(with_reducible refine (bO.calls k Lw RG _ A3.out).mono ?_);rintro e w' ⟨rfl,⟨nd,rfl⟩⟩;refine ⟨_,rfl, ?_⟩))
 go_ret
 exact ⟨by first|rfl|(simp [aj,ak]<;>rfl)|(simp [*,aj,ak]<;>rfl),bz HB⟩
attribute [local go_sem] dF dG eG eH cQ cR dH dI
def bT.f (aV:Int) (bh:Int) (bp:Int) (fQ:List Int):Option (List Int×Int):=if (fQ.length:Int)>65527 then (some (([]:List Int),23)) else ((bq.f ([]:List Int) aV).bind fun GJ=>((bq.f GJ bh).bind fun GK=>((bq.f GK (IntKind.u16.wrap (wrap64 (8+(fQ.length:Int))))).bind fun GL=>((bq.f GL bp).bind fun Et=>(if Et.length+fQ.length<140737488355328 then (some ((Et++fQ),0)) else (none))))))
def bT.T4:Bool×List (List Nat×List Nat):=(true,[([],[]),([],[]),([1],[1]),([2],[2]),([3],[3]),([4],[4]),([0,5],[0,5]),([],[]),([7],[7]),([6,8,6],[6,8]),([9,9,0,1,2,3,4,5,6,7,8,9],[0,9])])
def bT.B4:List Nat:=[0,0,2,6,14,30,63,0,128,511,1023]
theorem bT.Uw:gS .any (opsOf Try.f48 4)=bT.T4:=by kernel_rfl
theorem bT.MM:dN bT.T4.2 bT.B4=true:=by kernel_rfl
theorem bT.calls (aV:Int) (bh:Int) (bp:Int) (qi:Option Addr) (qj:Nat) (fQ:List Int) (r1:List Int) (r2:Int) (w:World) (wV:Kd.C (Kd.int .u8) w qi fQ.length fQ) (wW:fQ.length<=qj) (h:bT.f aV bh bp fQ=some (r1,r2)):
  Calls Try.prog 48 #[.agg #[.int .u16 aV,.int .u16 bh,.int .u16 bp,.slice qi fQ.length qj]] w fun e w'=>∃ o6:Value,e= .returned (.tuple #[o6,.int .i64 r2]) /\ Kd.R (Kd.int .u8) 5 w' w.heap.size (fun _=>True) o6 r1 /\ Below w.heap.size w w':=by
 have wB:=Try.underlying83;have EN:=aa.mk wV;have Mx:=aa.mk wW;clear wV wW;have HB:=gj w;have H:(if (fQ.length:Int)>65527 then (some (([]:List Int),23)) else ((bq.f ([]:List Int) aV).bind fun GJ=>((bq.f GJ bh).bind fun GK=>((bq.f GK (IntKind.u16.wrap (wrap64 (8+(fQ.length:Int))))).bind fun GL=>((bq.f GL bp).bind fun Et=>(if Et.length+fQ.length<140737488355328 then (some ((Et++fQ),0)) else (none)))))))=some (r1,r2):=h;clear h
 by_cases c2:(fQ.length:Int)>65527
 ·rw [au c2] at H
  have kg:decide (65527<(fQ.length:Int))=true:=bS c2;have mG:decide (65527<fQ.length)=true:=bS (by omega);clear c2;simp only [Option.some.injEq,Prod.mk.injEq] at H
  obtain ⟨rfl,rfl⟩:=H
  go_enter Try.func48,Try.ntmps48
  go_wp2_with (first|((with_reducible refine aA (N:=1) rfl ?_);refine aC ?hg (N:=1) ?hd (cs:= #[.int .u16 aV,.int .u16 bh,.int .u16 bp,.slice qi fQ.length qj]) (t:=83) ?hr ?_;(case hd=>rfl);(case hg=>rfl);(case hr=>first|(go_simp;done)|(go_simp;rfl));intro oQ hg w3 bK hb;have aJ:=aa.mk (aq (bz HB) hb);have aQ:=aa.mk (bK);have bt:=aa.mk ((by rw [hg];exact (af (bz HB)):w.heap.size<=oQ));have cr:=aa.mk ((by rw [hg];exact (af (bz HB)):w.heap.size<=oQ));clear HB;have HB:=aJ;have fk:=aQ;have Af1:=bt;have Af2:=cr;clear aJ aQ bt cr;clear hb bK hg;have pP:w3.cell? ⟨oQ,0,none⟩=some (.int .u16 aV):=cz fk.out 0 rfl;have pQ:w3.cell? ⟨oQ,1,none⟩=some (.int .u16 bh):=cz fk.out 1 rfl;have pR:w3.cell? ⟨oQ,2,none⟩=some (.int .u16 bp):=cz fk.out 2 rfl;have pS:w3.cell? ⟨oQ,3,none⟩=some (.slice qi fQ.length qj):=cz fk.out 3 rfl;have pT:=ae fk.out 0;have pU:=ae fk.out 1;have pV:=ae fk.out 2;have pW:=ae fk.out 3))
  go_ret2
  exact ⟨_,by first|rfl|(simp [aj,ak]<;>rfl)|(simp [*,aj,ak]<;>rfl),by first|exact Kd.cl _ _ _ _ _|exact Kd.ju _ _ _ _ _|exact Kd.jv _ _ _ _ _|exact Kd.jr _ _ _ _ _|exact Kd.js _ _ _ _ _,bz HB⟩
 ·rw [ax c2] at H
  have kg:decide (65527<(fQ.length:Int))=false:=gO c2;have mG:decide (65527<fQ.length)=false:=gO (by omega);clear c2;replace H:=cZ H;obtain ⟨GJ,CM,H⟩:=H
  (try dsimp -simprocs only at H)
  have A5:=aa.mk CM;clear CM;replace H:=cZ H;obtain ⟨GK,wq,H⟩:=H
  (try dsimp -simprocs only at H)
  have A6:=aa.mk wq;clear wq;replace H:=cZ H;obtain ⟨GL,Bc,H⟩:=H
  (try dsimp -simprocs only at H)
  have A7:=aa.mk Bc;clear Bc;replace H:=cZ H;obtain ⟨Et,Jv,H⟩:=H
  (try dsimp -simprocs only at H)
  have A8:=aa.mk Jv;clear Jv
  by_cases c9:Et.length+fQ.length<140737488355328
  ·rw [au c9] at H
   have P9:=aa.mk c9;clear c9;obtain ⟨At4,RH⟩:∃ y_:List Int,y_=(Et++fQ):=⟨_,rfl⟩
   rw [<- RH] at H
   have Af3:=aa.mk RH;clear RH;simp only [Option.some.injEq,Prod.mk.injEq] at H
   obtain ⟨rfl,rfl⟩:=H
   go_enter Try.func48,Try.ntmps48
   try go_wp2_with (first|((with_reducible refine aA (N:=1) rfl ?_);refine aC ?hg (N:=1) ?hd (cs:= #[.int .u16 aV,.int .u16 bh,.int .u16 bp,.slice qi fQ.length qj]) (t:=83) ?hr ?_;(case hd=>rfl);(case hg=>rfl);(case hr=>first|(go_simp;done)|(go_simp;rfl));intro oQ hg j4 bK hb;have aJ:=aa.mk (aq (bz HB) hb);have aQ:=aa.mk (bK);have bt:=aa.mk ((by rw [hg];exact (af (bz HB)):w.heap.size<=oQ));have cr:=aa.mk ((by rw [hg];exact (af (bz HB)):w.heap.size<=oQ));clear HB;have HB:=aJ;have fk:=aQ;have Af1:=bt;have Af2:=cr;clear aJ aQ bt cr;clear hb bK hg;have vB:j4.cell? ⟨oQ,0,none⟩=some (.int .u16 aV):=cz fk.out 0 rfl;have vC:j4.cell? ⟨oQ,1,none⟩=some (.int .u16 bh):=cz fk.out 1 rfl;have vD:j4.cell? ⟨oQ,2,none⟩=some (.int .u16 bp):=cz fk.out 2 rfl;have vE:j4.cell? ⟨oQ,3,none⟩=some (.slice qi fQ.length qj):=cz fk.out 3 rfl;have vF:=ae fk.out 0;have vG:=ae fk.out 1;have vH:=ae fk.out 2;have vI:=ae fk.out 3))
   have aJ:=aa.mk (aK fk.out);have aQ:=aa.mk (bf HB.out);clear fk;clear HB;have fk:=aJ;have HB:=aQ;clear aJ aQ;refine dg (n:=7) (S:=fun w'=>w'.cell? ⟨oQ,0,none⟩=some (.int .u16 aV) /\ w'.cell? ⟨oQ,1,none⟩=some (.int .u16 bh) /\ w'.cell? ⟨oQ,2,none⟩=some (.int .u16 bp) /\ w'.cell? ⟨oQ,3,none⟩=some (.slice qi fQ.length qj)) (ds:=[]) #[false,false,false,false,false,false,false] (by kernel_rfl) rfl rfl ⟨cz fk.out 0 rfl,cz fk.out 1 rfl,cz fk.out 2 rfl,cz fk.out 3 rfl⟩ (fun hHeld=> ?_);generalize j4.drew=l5 at fk HB hHeld|-
   refine wI (i:=0) (N:=some 9) (v:= ?_) (a':= ?_) #[true,false,false,false,false,false,false] rfl rfl (by kernel_rfl) (fun _ _ _ h=>h) (Or.inl ⟨by rfl, ?_⟩) ?_ ?_
   rotate_left
   ·intro w'
    go_simp
    with_reducible rfl
   rotate_left
   ·simp only [pL]
    rfl
   refine wI (i:=3) (N:=some 12) (v:= ?_) (a':= ?_) #[true,false,false,true,false,false,false] rfl rfl (by kernel_rfl) (fun _ _ _ h=>h) (Or.inl ⟨by rfl, ?_⟩) ?_ ?_
   rotate_left
   ·intro w'
    go_simp
    with_reducible rfl
   rotate_left
   ·simp only [pL]
    rfl
   refine gK (i:=1) (N:=some 10) (v:= ?_) (a':= ?_) #[true,true,false,true,false,false,false] rfl rfl (by kernel_rfl) (fun _ _ _ h=>h) (Or.inl ⟨by rfl, ?_⟩) hHeld ?_ ?_
   rotate_left
   ·rintro w' ⟨s0,s1,s2,s3⟩
    go_simp
    with_reducible rfl
   rotate_left
   ·simp only [pL]
    rfl
   refine gK (i:=4) (N:=some 13) (v:= ?_) (a':= ?_) #[true,true,false,true,true,false,false] rfl rfl (by kernel_rfl) (fun _ _ _ h=>h) (Or.inl ⟨by rfl, ?_⟩) hHeld ?_ ?_
   rotate_left
   ·rintro w' ⟨s0,s1,s2,s3⟩
    go_simp
    with_reducible rfl
   rotate_left
   ·simp only [pL]
    rfl
   refine YA (i:=2) (N:=some 11) #[true,true,true,true,true,false,false] rfl rfl (by kernel_rfl) (by decide) (fun K hK=> ?_);refine gG Try.func83 #[.slice none 0 0,.int .u16 aV] ?_;refine (bq.calls (fun k_=>some k_=(.slice none 0 0:Value).ownBlock) (.slice none 0 0) ([]:List Int) aV GJ w _ ?aG ?aH A5.out).mono ?_
   (case aG=>exact bz HB)
   (case aH=>exact Kd.cl _ _ _ _ _)
   rintro e sR ⟨At5,rfl,gE,hb,hkp⟩;refine ⟨_,rfl, ?_⟩;have aJ:=aa.mk (jf (kz fk) hkp (fun hs_=>(fun e_=>by simp [Value.ownBlock] at e_) hs_));have aQ:=aa.mk (Kd.dm (ok':=fun k_=>True) gE (fun k_ ql=>trivial));have bt:=aa.mk (hb);clear fk;clear HB;have fk:=aJ;have M4:=aQ;have HB:=bt;clear aJ aQ bt
   (try clear hb)
   (try clear hkp)
   (try clear gE)
   obtain ⟨Aa9,Aba,Af4⟩:=Kd.da M4.out
   (first|subst Af4|(injection Af4 with mY rD mZ;have rE:=mY.symm;have rF:=mZ.symm;clear mY rD mZ;subst rE;subst rF))
   refine hK.out _ _ ⟨cz fk.out 0 rfl,cz fk.out 1 rfl,cz fk.out 2 rfl,cz fk.out 3 rfl⟩ (fun hHeld=> ?_);clear hK K;refine nz 11 ?_;refine YA (i:=5) (N:=some 14) #[true,true,true,true,true,true,false] rfl rfl (by kernel_rfl) (by decide) (fun K hK=> ?_);refine gG Try.func83 #[.slice Aa9 GJ.length Aba,.int .u16 bh] ?_
   with_reducible refine (bq.calls (fun k_=>some k_=(.slice Aa9 GJ.length Aba:Value).ownBlock) (.slice Aa9 GJ.length Aba) GJ bh GK w _ ?aG ?aH A6.out).mono ?_
   (case aG=>exact bz HB)
   (case aH=>exact Kd.kR rfl M4.out)
   rintro e yE ⟨At6,rfl,gE,hb,hkp⟩;refine ⟨_,rfl, ?_⟩;have aJ:=aa.mk (jf (kz fk) hkp (fun hs_=>(fun e_=>(Kd.nw M4.out fk.out (by decide)) e_) hs_));have aQ:=aa.mk (Kd.dm (ok':=fun k_=>True) gE (fun k_ ql=>trivial));have bt:=aa.mk (hb);clear fk;clear HB;clear M4;have fk:=aJ;have Bn:=aQ;have HB:=bt;clear aJ aQ bt
   (try clear hb)
   (try clear hkp)
   (try clear gE)
   refine hK.out _ _ ⟨cz fk.out 0 rfl,cz fk.out 1 rfl,cz fk.out 2 rfl,cz fk.out 3 rfl⟩ (fun hHeld=> ?_);clear hK K;refine nz 14 ?_;refine wI (i:=6) (N:=some 4) (v:= ?_) (a':= ?_) #[true,true,true,true,true,true,true] rfl rfl (by kernel_rfl) (fun _ _ _ h=>h) (Or.inl ⟨by rfl, ?_⟩) ?_ ?_
   rotate_left
   ·intro w'
    go_simp
    with_reducible rfl
   rotate_left
   ·simp only [pL]
    rfl
   refine V8 (by kernel_rfl) ?_
   try go_wp2
   have aJ:=aa.mk (Kd.eY Bn.out);have aQ:=aa.mk (aK fk.out);have bt:=aa.mk (bf HB.out);clear Bn;clear fk;clear HB;have Bn:=aJ;have fk:=aQ;have HB:=bt;clear aJ aQ bt;obtain ⟨Abb,Abc,Af5⟩:=Kd.da Bn.out
   (first|subst Af5|(injection Af5 with mY rD mZ;have rE:=mY.symm;have rF:=mZ.symm;clear mY rD mZ;subst rE;subst rF))
   refine dg (n:=11) (S:=fun w'=>w'.cell? ⟨oQ,0,none⟩=some (.int .u16 aV) /\ w'.cell? ⟨oQ,1,none⟩=some (.int .u16 bh) /\ w'.cell? ⟨oQ,2,none⟩=some (.int .u16 bp) /\ w'.cell? ⟨oQ,3,none⟩=some (.slice qi fQ.length qj)) (ds:=[]) #[false,false,false,false,false,false,false,false,false,false,false] (by kernel_rfl) rfl rfl ⟨cz fk.out 0 rfl,cz fk.out 1 rfl,cz fk.out 2 rfl,cz fk.out 3 rfl⟩ (fun hHeld=> ?_);refine bH bT.Uw bT.MM (fun az dW=> ?_);generalize yE.drew=qM at Bn fk HB hHeld|-
   refine pz 0 15 az ?_;refine pz 1 16 az ?_;refine pz 7 22 az ?_;refine gK (i:=2) (N:=some 17) (v:= ?_) (a':= ?_) #[true,true,true,false,false,false,false,true,false,false,false] rfl rfl (dn az.out dW.out (by kernel_rfl)) (fun _ _ _ h=>h) (Or.inl ⟨by rfl, ?_⟩) hHeld ?_ ?_
   rotate_left
   ·rintro w' ⟨s0,s1,s2,s3⟩
    go_simp
    with_reducible rfl
   rotate_left
   ·simp only [pL]
    rfl
   refine pz 3 18 az ?_;refine pz 4 19 az ?_;refine pz 5 20 az ?_;refine gK (i:=8) (N:=some 23) (v:= ?_) (a':= ?_) #[true,true,true,true,true,true,false,true,true,false,false] rfl rfl (dn az.out dW.out (by kernel_rfl)) (fun _ _ _ h=>h) (Or.inl ⟨by rfl, ?_⟩) hHeld ?_ ?_
   rotate_left
   ·rintro w' ⟨s0,s1,s2,s3⟩
    go_simp
    with_reducible rfl
   rotate_left
   ·simp only [pL]
    rfl
   refine oz 6 (some 21) az (fun K hK=> ?_);refine gG Try.func83 #[.slice Abb GK.length Abc,.int .u16 (IntKind.u16.wrap (wrap64 (8+(fQ.length:Int))))] ?_
   with_reducible refine (bq.calls (fun k_=>some k_=(.slice Abb GK.length Abc:Value).ownBlock) (.slice Abb GK.length Abc) GK (IntKind.u16.wrap (wrap64 (8+(fQ.length:Int)))) GL w _ ?aG ?aH A7.out).mono ?_
   (case aG=>exact bz HB)
   (case aH=>exact Kd.kR rfl Bn.out)
   rintro e Mr ⟨At7,rfl,gE,hb,hkp⟩;refine ⟨_,rfl, ?_⟩;have aJ:=aa.mk (jf (kz fk) hkp (fun hs_=>(fun e_=>(Kd.nw Bn.out fk.out (by decide)) e_) hs_));have aQ:=aa.mk (Kd.dm (ok':=fun k_=>True) gE (fun k_ ql=>trivial));have bt:=aa.mk (hb);clear fk;clear HB;clear Bn;have fk:=aJ;have M5:=aQ;have HB:=bt;clear aJ aQ bt
   (try clear hb)
   (try clear hkp)
   (try clear gE)
   obtain ⟨NM,NN,P5⟩:=Kd.da M5.out
   (first|subst P5|(injection P5 with mY rD mZ;have rE:=mY.symm;have rF:=mZ.symm;clear mY rD mZ;subst rE;subst rF))
   refine hK.out _ _ ⟨cz fk.out 0 rfl,cz fk.out 1 rfl,cz fk.out 2 rfl,cz fk.out 3 rfl⟩ (fun hHeld=> ?_);clear hK K;refine nz 21 ?_;refine oz 9 (some 24) az (fun K hK=> ?_);refine gG Try.func83 #[.slice NM GL.length NN,.int .u16 bp] ?_
   with_reducible refine (bq.calls (fun k_=>some k_=(.slice NM GL.length NN:Value).ownBlock) (.slice NM GL.length NN) GL bp Et w _ ?aG ?aH A8.out).mono ?_
   (case aG=>exact bz HB)
   (case aH=>exact Kd.kR rfl M5.out)
   rintro e UW ⟨Ans,rfl,gE,hb,hkp⟩;refine ⟨_,rfl, ?_⟩;have aJ:=aa.mk (jf (kz fk) hkp (fun hs_=>(fun e_=>(Kd.nw M5.out fk.out (by decide)) e_) hs_));have aQ:=aa.mk (Kd.dm (ok':=fun k_=>True) gE (fun k_ ql=>trivial));have bt:=aa.mk (hb);clear fk;clear HB;clear M5;have fk:=aJ;have RI:=aQ;have HB:=bt;clear aJ aQ bt
   (try clear hb)
   (try clear hkp)
   (try clear gE)
   refine hK.out _ _ ⟨cz fk.out 0 rfl,cz fk.out 1 rfl,cz fk.out 2 rfl,cz fk.out 3 rfl⟩ (fun hHeld=> ?_);clear hK K;refine nz 24 ?_;refine pz 10 4 az ?_;refine dz az ?_;have Af6:=cs4 fk.out;have Af7:=ae fk.out
   try go_wp2_with (first|((with_reducible refine fo (b:= .append) (xs:= #[.tmp 25,.tmp 27]) rfl ?_);at_builtin;refine Kd.gC (Kd.int .u8) (w0:=w) w.heap.size rfl (.tmp 25) (.tmp 27) 23 5 (.int .u8 0) 1 rfl Try.underlying23 gB rfl (by decide) (by omega) Ans Et fQ _ _ _ (fun _=>True) (fun _=>False) rfl rfl ?aO ?aR (fun _ _ h=>h) (fun _ h=>h.elim) ?aF ?aB ?aS ?aL ?_;(case aR=>exact Kd.aU EN.out (bz HB));(case aB=>exact bz HB);(case aF=>exact (fun _ _=>trivial));(case aO=>exact (Kd.rz RI));(case aS=>exact (af (bz HB)));(case aL=>have:=P9.out;omega);intro At8 Ra ho hb hg hat;rw [<- Af3.out] at ho;have aJ:=aa.mk (gV (kz fk) hg (Kd.nw RI.out fk.out (by decide)));have aQ:=aa.mk (hb);have bt:=aa.mk (ho);clear fk;clear HB;clear RI;have fk:=aJ;have HB:=aQ;have Af8:=bt;clear aJ aQ bt;clear ho hb hg hat))
   go_ret2
   exact ⟨_,by first|rfl|(simp [aj,ak]<;>rfl)|(simp [*,aj,ak]<;>rfl),by (with_reducible repeat (first|apply Kd.eX|apply Kd.eT|apply Kd.eY));exact Af8.out,bz HB⟩
  ·rw [ax c9] at H
   cases H
attribute [local go_sem] dF dG eG eH cQ cR dH dI
def cN.f (a0:Int) (a1:Int) (a2:Int) (a3:Int):Option (Int):=some (Go.bits .or .u32 (Go.bits .or .u32 (Go.bits .or .u32 ((((a0) % 4294967296)*16777216) % 4294967296) ((((a1) % 4294967296)*65536) % 4294967296)) ((((a2) % 4294967296)*256) % 4294967296)) ((a3) % 4294967296))
theorem cN.calls (a0:Int) (a1:Int) (a2:Int) (a3:Int) (r:Int) (w:World) (h:cN.f a0 a1 a2 a3=some r):
  Calls Try.prog 44 #[.int .u8 a0,.int .u8 a1,.int .u8 a2,.int .u8 a3] w fun e w'=>e= .returned (.int .u32 r) /\ bF w w':=by
 have H:(some (Go.bits .or .u32 (Go.bits .or .u32 (Go.bits .or .u32 ((((a0) % 4294967296)*16777216) % 4294967296) ((((a1) % 4294967296)*65536) % 4294967296)) ((((a2) % 4294967296)*256) % 4294967296)) ((a3) % 4294967296)))=some r:=h;clear h;obtain rfl:=cS H
 go_enter Try.func44,Try.ntmps44
 go_wp2
 go_ret
 exact ⟨by first|rfl|(simp;done)|(simp [*];done),by repeat (first|exact bF.refl _|apply bF.step)⟩
attribute [local go_sem] dF dG eG eH cQ cR dH dI
def ez.f (k:Nat) (a0:Int) (a1:Int) (a2:Int) (a3:Int):Option (Int):=(bO.f k (((a0 / 65536)+(Go.bits .and .u32 a0 65535)+(a1 / 65536)+(Go.bits .and .u32 a1 65535)+(a2)+(Go.bits .and .u64 (IntKind.u64.wrap (a3)) 65535)) % 4294967296)).bind fun Om=>(some ((Om) % 4294967296))
theorem ez.calls (k:Nat) (a0:Int) (a1:Int) (a2:Int) (a3:Int) (r:Int) (w:World) (h:ez.f k a0 a1 a2 a3=some r):
  Calls Try.prog 82 #[.int .u32 a0,.int .u32 a1,.int .u8 a2,.int .i64 a3] w fun e w'=>e= .returned (.int .u32 r) /\ bF w w':=by
 have H:((bO.f k (((a0 / 65536)+(Go.bits .and .u32 a0 65535)+(a1 / 65536)+(Go.bits .and .u32 a1 65535)+(a2)+(Go.bits .and .u64 (IntKind.u64.wrap (a3)) 65535)) % 4294967296)).bind fun Om=>(some ((Om) % 4294967296)))=some r:=h;clear h;replace H:=cZ H;obtain ⟨Om,CM,H⟩:=H;replace H:(some ((Om) % 4294967296))=some r:=H;have A5:=aa.mk CM;clear CM;obtain rfl:=cS H
 go_enter Try.func82,Try.ntmps82
 go_wp2_with (first|((with_reducible refine ay (f:=79) rfl ?_);refine gL 30 Try.func79 #[.int .u32 (((a0 / 65536)+(Go.bits .and .u32 a0 65535)+(a1 / 65536)+(Go.bits .and .u32 a1 65535)+(a2)+(Go.bits .and .u64 (IntKind.u64.wrap (a3)) 65535)) % 4294967296)] ?_;(with_reducible refine (bO.calls k (((a0 / 65536)+(Go.bits .and .u32 a0 65535)+(a1 / 65536)+(Go.bits .and .u32 a1 65535)+(a2)+(Go.bits .and .u64 (IntKind.u64.wrap (a3)) 65535)) % 4294967296) Om _ A5.out).mono ?_);rintro e w' ⟨rfl,⟨nd,rfl⟩⟩;refine ⟨_,rfl, ?_⟩))
 go_ret
 exact ⟨by first|rfl|(simp;done)|(simp [*];done),by repeat (first|exact bF.refl _|apply bF.step)⟩
attribute [local go_sem] dF dG eG eH cQ cR dH dI
def lH.f (a0:Int):Option (Int):=if (Int.tmod a0 6)=5 then ((cN.f 10 0 0 9).bind fun RJ=>(some RJ)) else ((cN.f 10 0 0 ((1+(Int.tmod a0 3)) % 256)).bind fun RK=>(some RK))
theorem lH.calls (a0:Int) (r:Int) (w:World) (h:lH.f a0=some r):
  Calls Try.prog 49 #[.int .u8 a0] w fun e w'=>e= .returned (.int .u32 r) /\ bF w w':=by
 have H:(if (Int.tmod a0 6)=5 then ((cN.f 10 0 0 9).bind fun RJ=>(some RJ)) else ((cN.f 10 0 0 ((1+(Int.tmod a0 3)) % 256)).bind fun RK=>(some RK)))=some r:=h;clear h
 by_cases c2:(Int.tmod a0 6)=5
 ·rw [au c2] at H
  have kg:((Int.tmod a0 6)==5)=true:=fH c2;have mG:((Int.tmod a0 6) !=5)=false:=kO c2;clear c2;replace H:=cZ H;obtain ⟨RJ,wE,H⟩:=H
  (try dsimp -simprocs only at H)
  have A3:=aa.mk wE;clear wE;obtain rfl:=cS H
  go_enter Try.func49,Try.ntmps49
  go_wp2_with (first|((with_reducible refine ay (f:=44) rfl ?_);refine gL 6 Try.func44 #[.int .u8 10,.int .u8 0,.int .u8 0,.int .u8 9] ?_;(with_reducible refine (cN.calls 10 0 0 9 RJ _ A3.out).mono ?_);rintro e w' ⟨rfl,⟨nd,rfl⟩⟩;refine ⟨_,rfl, ?_⟩))
  go_ret
  exact ⟨by first|rfl|(simp;done)|(simp [*];done),by repeat (first|exact bF.refl _|apply bF.step)⟩
 ·rw [ax c2] at H
  have kg:((Int.tmod a0 6)==5)=false:=fc c2;have mG:((Int.tmod a0 6) !=5)=true:=lA c2;replace H:=cZ H;obtain ⟨RK,qA,H⟩:=H
  (try dsimp -simprocs only at H)
  have A4:=aa.mk qA;clear qA;obtain rfl:=cS H
  go_enter Try.func49,Try.ntmps49
  go_wp2_with (first|((with_reducible refine ay (f:=44) rfl ?_);refine gL 10 Try.func44 #[.int .u8 10,.int .u8 0,.int .u8 0,.int .u8 ((1+(Int.tmod a0 3)) % 256)] ?_;(with_reducible refine (cN.calls 10 0 0 ((1+(Int.tmod a0 3)) % 256) RK _ A4.out).mono ?_);rintro e w' ⟨rfl,⟨nd,rfl⟩⟩;refine ⟨_,rfl, ?_⟩))
  go_ret
  exact ⟨by first|rfl|(simp;done)|(simp [*];done),by repeat (first|exact bF.refl _|apply bF.step)⟩
mutual
def bU.j0:Nat ->Int ->Int ->Bool ->Option (Int)
 |0,_,_,_=>none
 |k+1,x1,x6,x7=>if x7=true then ((cN.f 8 8 8 8).bind fun RL=>(some RL)) else (if x6=2 then ((cN.f 8 8 4 4).bind fun RM=>(some RM)) else (if x6=3 then ((cN.f 192 168 0 5).bind fun RN=>(some RN)) else (if x6=4 then ((cN.f 192 168 0 6).bind fun RO=>(some RO)) else (if x6=5 then (bU.j1 k x1 x6 (x6==5)) else (bU.j1 k x1 x6 (x6==6))))))
def bU.j1:Nat ->Int ->Int ->Bool ->Option (Int)
 |0,_,_,_=>none
 |k+1,x1,x6,x20=>if x20=true then ((cN.f 5 5 x1 1).bind fun RP=>(some RP)) else (if x6=7 then ((cN.f 5 6 x1 9).bind fun RQ=>(some RQ)) else ((cN.f 5 5 (Go.bits .xor .u8 x1 1) 1).bind fun RR=>(some RR)))
end
def bU.f (k:Nat) (a0:Int) (a1:Int):Option (Int):=if (Int.tmod a0 9)=0 then (bU.j0 k a1 (Int.tmod a0 9) ((Int.tmod a0 9)==0)) else (bU.j0 k a1 (Int.tmod a0 9) ((Int.tmod a0 9)==1))
theorem bU.calls (k:Nat) (a0:Int) (a1:Int) (r:Int) (w:World) (h:bU.f k a0 a1=some r):
  Calls Try.prog 50 #[.int .u8 a0,.int .u8 a1] w fun e w'=>e= .returned (.int .u32 r) /\ bF w w':=by
 have H:(if (Int.tmod a0 9)=0 then (bU.j0 k a1 (Int.tmod a0 9) ((Int.tmod a0 9)==0)) else (bU.j0 k a1 (Int.tmod a0 9) ((Int.tmod a0 9)==1)))=some r:=h;clear h;have HC3:=aa.mk H;clear H
 go_enter Try.func50,Try.ntmps50
 go_upto_if 7 with (fail)
 go_cut [7] (fun v7 wc=>∃ (kq:Nat) (yj:Bool),v7= .bool yj /\ aa (bU.j0 kq a1 (Int.tmod a0 9) yj=some r) /\ aa (kq<=k) /\ bF w wc)
 case first=>
  have H:=HC3.out;clear HC3
  by_cases c4:(Int.tmod a0 9)=0
  ·rw [au c4] at H
   have mH:((Int.tmod a0 9)==0)=true:=fH c4;have xQ:((Int.tmod a0 9) !=0)=false:=kO c4;clear c4
   (first|rw [mH]|(simp only [jk,mo];rw [mH])|skip)
   have H':=aa.mk H;clear H
   go_wp2
   go_meet
   case rel=>exact ⟨_,(((Int.tmod a0 9)==0)),(by first|rfl|(simp;done)|(simp [*];done)),H',⟨by first|omega|exact Nat.le_refl _⟩,by repeat (first|exact bF.refl _|apply bF.step)⟩
  ·rw [ax c4] at H
   have mH:((Int.tmod a0 9)==0)=false:=fc c4;have xQ:((Int.tmod a0 9) !=0)=true:=lA c4
   (first|rw [mH]|(simp only [jk,mo];rw [mH])|skip)
   have H':=aa.mk H;clear H
   go_wp2
   go_meet
   case rel=>exact ⟨_,(((Int.tmod a0 9)==1)),(by first|rfl|(simp;done)|(simp [*];done)),H',⟨by first|omega|exact Nat.le_refl _⟩,by repeat (first|exact bF.refl _|apply bF.step)⟩
 case rest=>
  clear HC3;obtain ⟨kq,yj,rfl,HA,HJ2,⟨mc2,rfl⟩⟩:=hcut
  cases kq with
  |zero=>exact absurd HA.out (by simp [bU.j0])
  |succ kj2=>
   have H:=HA.out;clear HA;simp only [bU.j0] at H
   by_cases c5:yj=true
   ·subst c5
    have H1:((cN.f 8 8 8 8).bind fun RL=>(some RL))=some r:=by rw [au rfl] at H;exact H
    clear H;have H:=H1;clear H1;replace H:=cZ H;obtain ⟨RL,wq,H⟩:=H
    (try dsimp -simprocs only at H)
    have A6:=aa.mk wq;clear wq;obtain rfl:=cS H
    go_wp2_with (first|((with_reducible refine ay (f:=44) rfl ?_);refine gL 10 Try.func44 #[.int .u8 8,.int .u8 8,.int .u8 8,.int .u8 8] ?_;(with_reducible refine (cN.calls 8 8 8 8 RL _ A6.out).mono ?_);rintro e w' ⟨rfl,⟨nd,rfl⟩⟩;refine ⟨_,rfl, ?_⟩))
    go_ret
    exact ⟨by first|rfl|(simp;done)|(simp [*];done),by repeat (first|exact bF.refl _|apply bF.step)⟩
   ·replace c5:=xP c5
    subst c5;have H1:(if (Int.tmod a0 9)=2 then ((cN.f 8 8 4 4).bind fun RM=>(some RM)) else (if (Int.tmod a0 9)=3 then ((cN.f 192 168 0 5).bind fun RN=>(some RN)) else (if (Int.tmod a0 9)=4 then ((cN.f 192 168 0 6).bind fun RO=>(some RO)) else (if (Int.tmod a0 9)=5 then (bU.j1 kj2 a1 (Int.tmod a0 9) ((Int.tmod a0 9)==5)) else (bU.j1 kj2 a1 (Int.tmod a0 9) ((Int.tmod a0 9)==6))))))=some r:=by rw [ax (show ¬ (false=true) by decide)] at H;exact H
    clear H;have H:=H1;clear H1
    by_cases c7:(Int.tmod a0 9)=2
    ·rw [au c7] at H
     have Ah:((Int.tmod a0 9)==2)=true:=fH c7;have TU:((Int.tmod a0 9) !=2)=false:=kO c7;clear c7;replace H:=cZ H;obtain ⟨RM,Jv,H⟩:=H
     (try dsimp -simprocs only at H)
     have A8:=aa.mk Jv;clear Jv;obtain rfl:=cS H
     go_wp2_with (first|((with_reducible refine ay (f:=44) rfl ?_);refine gL 13 Try.func44 #[.int .u8 8,.int .u8 8,.int .u8 4,.int .u8 4] ?_;(with_reducible refine (cN.calls 8 8 4 4 RM _ A8.out).mono ?_);rintro e w' ⟨rfl,⟨nd,rfl⟩⟩;refine ⟨_,rfl, ?_⟩))
     go_ret
     exact ⟨by first|rfl|(simp;done)|(simp [*];done),by repeat (first|exact bF.refl _|apply bF.step)⟩
    ·rw [ax c7] at H
     have Ah:((Int.tmod a0 9)==2)=false:=fc c7;have TU:((Int.tmod a0 9) !=2)=true:=lA c7
     by_cases c9:(Int.tmod a0 9)=3
     ·rw [au c9] at H
      have wT:((Int.tmod a0 9)==3)=true:=fH c9;have NK:((Int.tmod a0 9) !=3)=false:=kO c9;clear c9;replace H:=cZ H;obtain ⟨RN,zm,H⟩:=H
      (try dsimp -simprocs only at H)
      have KL:=aa.mk zm;clear zm;obtain rfl:=cS H
      go_wp2_with (first|((with_reducible refine ay (f:=44) rfl ?_);refine gL 16 Try.func44 #[.int .u8 192,.int .u8 168,.int .u8 0,.int .u8 5] ?_;(with_reducible refine (cN.calls 192 168 0 5 RN _ KL.out).mono ?_);rintro e w' ⟨rfl,⟨nd,rfl⟩⟩;refine ⟨_,rfl, ?_⟩))
      go_ret
      exact ⟨by first|rfl|(simp;done)|(simp [*];done),by repeat (first|exact bF.refl _|apply bF.step)⟩
     ·rw [ax c9] at H
      have wT:((Int.tmod a0 9)==3)=false:=fc c9;have NK:((Int.tmod a0 9) !=3)=true:=lA c9
      by_cases ru:(Int.tmod a0 9)=4
      ·rw [au ru] at H
       have Bb:((Int.tmod a0 9)==4)=true:=fH ru;have Mp:((Int.tmod a0 9) !=4)=false:=kO ru;clear ru;replace H:=cZ H;obtain ⟨RO,zn,H⟩:=H
       (try dsimp -simprocs only at H)
       have TY:=aa.mk zn;clear zn;obtain rfl:=cS H
       go_wp2_with (first|((with_reducible refine ay (f:=44) rfl ?_);refine gL 19 Try.func44 #[.int .u8 192,.int .u8 168,.int .u8 0,.int .u8 6] ?_;(with_reducible refine (cN.calls 192 168 0 6 RO _ TY.out).mono ?_);rintro e w' ⟨rfl,⟨nd,rfl⟩⟩;refine ⟨_,rfl, ?_⟩))
       go_ret
       exact ⟨by first|rfl|(simp;done)|(simp [*];done),by repeat (first|exact bF.refl _|apply bF.step)⟩
      ·rw [ax ru] at H
       have Bb:((Int.tmod a0 9)==4)=false:=fc ru;have Mp:((Int.tmod a0 9) !=4)=true:=lA ru;have Abd:=aa.mk H;clear H
       go_upto_if 20 with (fail)
       go_cut [20] (fun v20 wc=>∃ (kq:Nat) (GM:Bool),v20= .bool GM /\ aa (bU.j1 kq a1 (Int.tmod a0 9) GM=some r) /\ aa (kq<=kj2) /\ bF w wc)
       case first=>
        have H:=Abd.out;clear Abd
        by_cases Cb:(Int.tmod a0 9)=5
        ·rw [au Cb] at H
         have C8:((Int.tmod a0 9)==5)=true:=fH Cb;have QX:((Int.tmod a0 9) !=5)=false:=kO Cb;clear Cb
         (first|rw [C8]|(simp only [jk,mo];rw [C8])|skip)
         have H':=aa.mk H;clear H
         go_wp2
         go_meet
         case rel=>exact ⟨_,(((Int.tmod a0 9)==5)),(by first|rfl|(simp;done)|(simp [*];done)),H',⟨by have:=HJ2.out;first|omega|exact Nat.le_refl _⟩,by repeat (first|exact bF.refl _|apply bF.step)⟩
        ·rw [ax Cb] at H
         have C8:((Int.tmod a0 9)==5)=false:=fc Cb;have QX:((Int.tmod a0 9) !=5)=true:=lA Cb
         (first|rw [C8]|(simp only [jk,mo];rw [C8])|skip)
         have H':=aa.mk H;clear H
         go_wp2
         go_meet
         case rel=>exact ⟨_,(((Int.tmod a0 9)==6)),(by first|rfl|(simp;done)|(simp [*];done)),H',⟨by have:=HJ2.out;first|omega|exact Nat.le_refl _⟩,by repeat (first|exact bF.refl _|apply bF.step)⟩
       case rest=>
        clear Abd
        try clear c5
        try clear c7
        try clear Ah
        try clear TU
        try clear c9
        try clear wT
        try clear NK
        try clear ru
        try clear Bb
        try clear Mp
        obtain ⟨kq,GM,rfl,HA,At9,⟨Aua,rfl⟩⟩:=hcut
        cases kq with
        |zero=>exact absurd HA.out (by simp [bU.j1])
        |succ Auc=>
         have H:=HA.out;clear HA;simp only [bU.j1] at H
         by_cases wP:GM=true
         ·subst wP
          have H1:((cN.f 5 5 a1 1).bind fun RP=>(some RP))=some r:=by rw [au rfl] at H;exact H
          clear H;have H:=H1;clear H1;replace H:=cZ H;obtain ⟨RP,wR,H⟩:=H
          (try dsimp -simprocs only at H)
          have O6:=aa.mk wR;clear wR;obtain rfl:=cS H
          go_wp2_with (first|((with_reducible refine ay (f:=44) rfl ?_);refine gL 24 Try.func44 #[.int .u8 5,.int .u8 5,.int .u8 a1,.int .u8 1] ?_;(with_reducible refine (cN.calls 5 5 a1 1 RP _ O6.out).mono ?_);rintro e w' ⟨rfl,⟨nd,rfl⟩⟩;refine ⟨_,rfl, ?_⟩))
          go_ret
          exact ⟨by first|rfl|(simp;done)|(simp [*];done),by repeat (first|exact bF.refl _|apply bF.step)⟩
         ·replace wP:=xP wP
          subst wP;have H1:(if (Int.tmod a0 9)=7 then ((cN.f 5 6 a1 9).bind fun RQ=>(some RQ)) else ((cN.f 5 5 (Go.bits .xor .u8 a1 1) 1).bind fun RR=>(some RR)))=some r:=by rw [ax (show ¬ (false=true) by decide)] at H;exact H
          clear H;have H:=H1;clear H1
          by_cases rL:(Int.tmod a0 9)=7
          ·rw [au rL] at H
           have Ib:((Int.tmod a0 9)==7)=true:=fH rL;have PT:((Int.tmod a0 9) !=7)=false:=kO rL;clear rL;replace H:=cZ H;obtain ⟨RQ,wS,H⟩:=H
           (try dsimp -simprocs only at H)
           have NJ:=aa.mk wS;clear wS;obtain rfl:=cS H
           go_wp2_with (first|((with_reducible refine ay (f:=44) rfl ?_);refine gL 28 Try.func44 #[.int .u8 5,.int .u8 6,.int .u8 a1,.int .u8 9] ?_;(with_reducible refine (cN.calls 5 6 a1 9 RQ _ NJ.out).mono ?_);rintro e w' ⟨rfl,⟨nd,rfl⟩⟩;refine ⟨_,rfl, ?_⟩))
           go_ret
           exact ⟨by first|rfl|(simp;done)|(simp [*];done),by repeat (first|exact bF.refl _|apply bF.step)⟩
          ·rw [ax rL] at H
           have Ib:((Int.tmod a0 9)==7)=false:=fc rL;have PT:((Int.tmod a0 9) !=7)=true:=lA rL;replace H:=cZ H;obtain ⟨RR,CI,H⟩:=H
           (try dsimp -simprocs only at H)
           have ZG:=aa.mk CI;clear CI;obtain rfl:=cS H
           go_wp2_with (first|((with_reducible refine ay (f:=44) rfl ?_);refine gL 31 Try.func44 #[.int .u8 5,.int .u8 5,.int .u8 (Go.bits .xor .u8 a1 1),.int .u8 1] ?_;(with_reducible refine (cN.calls 5 5 (Go.bits .xor .u8 a1 1) 1 RR _ ZG.out).mono ?_);rintro e w' ⟨rfl,⟨nd,rfl⟩⟩;refine ⟨_,rfl, ?_⟩))
           go_ret
           exact ⟨by first|rfl|(simp;done)|(simp [*];done),by repeat (first|exact bF.refl _|apply bF.step)⟩
def mz.f (a0:Int):Option (Int):=(some (([17,6,1,17]:List Int):List Int)).bind fun Di=>(if 0<=(Int.tmod a0 4) then (if (Int.tmod a0 4)<(Di.length:Int) then (some (rd Di (Int.tmod a0 4))) else (none)) else (none))
theorem mz.calls (a0:Int) (r:Int) (w:World) (h:mz.f a0=some r):
  Calls Try.prog 51 #[.int .u8 a0] w fun e w'=>e= .returned (.int .u8 r) /\ Below w.heap.size w w':=by
 have HB:=gj w;have H:((some (([17,6,1,17]:List Int):List Int)).bind fun Di=>(if 0<=(Int.tmod a0 4) then (if (Int.tmod a0 4)<(Di.length:Int) then (some (rd Di (Int.tmod a0 4))) else (none)) else (none)))=some r:=h;clear h;obtain ⟨Di,RS⟩:∃ y_:List Int,y_=(([17,6,1,17]:List Int)):=⟨_,rfl⟩
 rw [<- RS] at H
 have XC:=aa.mk RS;clear RS;obtain ⟨Td,Abe⟩:∃ j_:Int,(Int.tmod a0 4)=j_:=⟨_,rfl⟩
 replace H:(if 0<=(Td) then (if (Td)<(Di.length:Int) then (some (rd Di (Td))) else (none)) else (none))=some r:=by first|(rw [Abe] at H;exact H)|(simp only [Abe] at H|-;exact H)
 by_cases c3:0<=(Td)
 ·rw [au c3] at H
  have oY:decide (0<=(Td))=true:=bS c3;clear c3
  by_cases c4:(Td)<(Di.length:Int)
  ·rw [au c4] at H
   have mH:decide ((Td)<(Di.length:Int))=true:=bS c4;clear c4;obtain rfl:=cS H
   go_enter Try.func51,Try.ntmps51
   go_wp2_with (first|((with_reducible refine aA (N:=3) rfl ?_);refine Kd.qq (Kd.int .u8) _ 5 ?hg (N:=3) ?hd (xs:=([17,6,1,17]:List Int)) (inner:=[.int .u8 17,.int .u8 6,.int .u8 1,.int .u8 17]) (ok:=fun _=>True) (rq:=fun _=>True) ?hr ?hp (fun _ hk=>hk) trivial (Below.refl _ _) (Nat.le_refl _) (by simp) ?_;(case hd=>rfl);(case hg=>rfl);(case hr=>first|(go_simp;done)|(go_simp;rfl));(case hp=>exact (cI.one (show Kd.M (Kd.int .u8) _ _ _ 17 [.int .u8 17] from rfl) (cI.one (show Kd.M (Kd.int .u8) _ _ _ 6 [.int .u8 6] from rfl) (cI.one (show Kd.M (Kd.int .u8) _ _ _ 1 [.int .u8 1] from rfl) (cI.one (show Kd.M (Kd.int .u8) _ _ _ 17 [.int .u8 17] from rfl) (cI.none _ _))))));intro Aud w5 ho6 hb gJ iM;clear gJ iM;(first|rw [<- XC.out] at ho6|(simp only [Int.reduceToNat] at ho6;rw [<- XC.out] at ho6));have aJ:=aa.mk (Kd.bP ho6 (af (bz HB)));have aQ:=aa.mk (aq (bz HB) hb);clear HB;have XD:=aJ;have HB:=aQ;clear aJ aQ;clear hb ho6;obtain ⟨Ao7,co7,eo7⟩:=Kd.da XD.out;subst eo7;have Abf:0<=((Td):Int):=gD;have Abg:(Td)<(Di.length:Int):=gD;obtain ⟨AqX,Anv,AiX⟩:=Kd.dB (Kd.av XD.out).2.2 (Td) Abf Abg;cases Anv;replace Abf:=eq_true Abf;replace Abg:=eq_true Abg))
   go_ret
   exact ⟨by first|rfl|(simp [aj,ak]<;>rfl)|(simp only [<- Abe];first|rfl|(simp [aj,ak]<;>rfl))|(simp [*,aj,ak]<;>rfl),bz HB⟩
  ·rw [ax c4] at H
   cases H
 ·rw [ax c3] at H
  cases H
def jd.f (a0:Int):Option (Int):=if (Int.tmod a0 5)=0 then (some (IntKind.u16.wrap (1000+(IntKind.u16.wrap (a0 / 16))))) else (if (Int.tmod a0 5)=1 then (some 53) else (some (IntKind.u16.wrap (1020+(IntKind.u16.wrap (a0 / 8))))))
theorem jd.calls (a0:Int) (r:Int) (w:World) (h:jd.f a0=some r):
  Calls Try.prog 52 #[.int .u8 a0] w fun e w'=>e= .returned (.int .u16 r) /\ bF w w':=by
 have H:(if (Int.tmod a0 5)=0 then (some (IntKind.u16.wrap (1000+(IntKind.u16.wrap (a0 / 16))))) else (if (Int.tmod a0 5)=1 then (some 53) else (some (IntKind.u16.wrap (1020+(IntKind.u16.wrap (a0 / 8)))))))=some r:=h;clear h
 by_cases c2:(Int.tmod a0 5)=0
 ·rw [au c2] at H
  have kg:((Int.tmod a0 5)==0)=true:=fH c2;have mG:((Int.tmod a0 5) !=0)=false:=kO c2;clear c2;obtain rfl:=cS H
  go_enter Try.func52,Try.ntmps52
  go_wp2
  go_ret
  exact ⟨by first|rfl|(simp;done)|(simp [*];done),by repeat (first|exact bF.refl _|apply bF.step)⟩
 ·rw [ax c2] at H
  have kg:((Int.tmod a0 5)==0)=false:=fc c2;have mG:((Int.tmod a0 5) !=0)=true:=lA c2
  by_cases c3:(Int.tmod a0 5)=1
  ·rw [au c3] at H
   have oY:((Int.tmod a0 5)==1)=true:=fH c3;have qP:((Int.tmod a0 5) !=1)=false:=kO c3;clear c3;obtain rfl:=cS H
   go_enter Try.func52,Try.ntmps52
   go_wp2
   go_ret
   exact ⟨by first|rfl|(simp;done)|(simp [*];done),by repeat (first|exact bF.refl _|apply bF.step)⟩
  ·rw [ax c3] at H
   have oY:((Int.tmod a0 5)==1)=false:=fc c3;have qP:((Int.tmod a0 5) !=1)=true:=lA c3;obtain rfl:=cS H
   go_enter Try.func52,Try.ntmps52
   go_wp2
   go_ret
   exact ⟨by first|rfl|(simp;done)|(simp [*];done),by repeat (first|exact bF.refl _|apply bF.step)⟩
def bG.f (aV:Int) (bh:Int) (bp:Int) (bw:Int) (cA:List Int):Option (List Int×Int):=if (cA.length:Int)>65507 then (some (([]:List Int),23)) else ((bq.f (([aV,bh]:List Int)) bp).bind fun GQ=>((dK.f GQ bw).bind fun Eu=>(if Eu.length+cA.length<140737488355328 then (some ((Eu++cA),0)) else (none))))
def bG.T3:Bool×List (List Nat×List Nat):=(true,[([],[]),([0],[0]),([],[]),([2],[2]),([1,3],[1,3]),([],[]),([5],[5]),([4,6],[4,6]),([],[]),([8],[8]),([7,9,7],[7,9]),([],[]),([11],[11]),([10,12,10],[10,12]),([13,13,0,1,2,3,4,5,6,7,8,9,10,11,12,13],[13]),([14,0,1,2,3,4,5,6,7,8,9,10,11,12,13,14],[])])
def bG.B3:List Nat:=[0,1,0,4,15,0,32,127,0,256,1023,0,2048,8191,16383,32767]
theorem bG.KD:gS .any (opsOf Try.f55 3)=bG.T3:=by kernel_rfl
theorem bG.CA:dN bG.T3.2 bG.B3=true:=by kernel_rfl
theorem bG.calls (aV:Int) (bh:Int) (bp:Int) (bw:Int) (fE:Option Addr) (fF:Nat) (cA:List Int) (r1:List Int) (r2:Int) (w:World) (jU:Kd.C (Kd.int .u8) w fE cA.length cA) (jV:cA.length<=fF) (h:bG.f aV bh bp bw cA=some (r1,r2)):
  Calls Try.prog 55 #[.agg #[.int .u8 aV,.int .u8 bh,.int .u16 bp,.int .u32 bw,.slice fE cA.length fF]] w fun e w'=>∃ o6:Value,e= .returned (.tuple #[o6,.int .i64 r2]) /\ Kd.R (Kd.int .u8) 5 w' w.heap.size (fun _=>True) o6 r1 /\ Below w.heap.size w w':=by
 have ny:=Try.underlying101;have oh:=aa.mk jU;have o7:=aa.mk jV;clear jU jV;have HB:=gj w;have H:(if (cA.length:Int)>65507 then (some (([]:List Int),23)) else ((bq.f (([aV,bh]:List Int)) bp).bind fun GQ=>((dK.f GQ bw).bind fun Eu=>(if Eu.length+cA.length<140737488355328 then (some ((Eu++cA),0)) else (none)))))=some (r1,r2):=h;clear h
 by_cases c2:(cA.length:Int)>65507
 ·rw [au c2] at H
  have kg:decide (65507<(cA.length:Int))=true:=bS c2;have mG:decide (65507<cA.length)=true:=bS (by omega);clear c2;simp only [Option.some.injEq,Prod.mk.injEq] at H
  obtain ⟨rfl,rfl⟩:=H
  go_enter Try.func55,Try.ntmps55
  go_wp2_with (first|((with_reducible refine aA (N:=1) rfl ?_);refine aC ?hg (N:=1) ?hd (cs:= #[.int .u8 aV,.int .u8 bh,.int .u16 bp,.int .u32 bw,.slice fE cA.length fF]) (t:=101) ?hr ?_;(case hd=>rfl);(case hg=>rfl);(case hr=>first|(go_simp;done)|(go_simp;rfl));intro pG hg w3 bK hb;have aJ:=aa.mk (aq (bz HB) hb);have aQ:=aa.mk (bK);have bt:=aa.mk ((by rw [hg];exact (af (bz HB)):w.heap.size<=pG));have cr:=aa.mk ((by rw [hg];exact (af (bz HB)):w.heap.size<=pG));clear HB;have HB:=aJ;have fI:=aQ;have Aga:=bt;have Agb:=cr;clear aJ aQ bt cr;clear hb bK hg;have pP:w3.cell? ⟨pG,0,none⟩=some (.int .u8 aV):=cz fI.out 0 rfl;have pQ:w3.cell? ⟨pG,1,none⟩=some (.int .u8 bh):=cz fI.out 1 rfl;have pR:w3.cell? ⟨pG,2,none⟩=some (.int .u16 bp):=cz fI.out 2 rfl;have pS:w3.cell? ⟨pG,3,none⟩=some (.int .u32 bw):=cz fI.out 3 rfl;have tU:w3.cell? ⟨pG,4,none⟩=some (.slice fE cA.length fF):=cz fI.out 4 rfl;have pT:=ae fI.out 0;have pU:=ae fI.out 1;have pV:=ae fI.out 2;have pW:=ae fI.out 3;have tV:=ae fI.out 4))
  go_ret2
  exact ⟨_,by first|rfl|(simp [aj,ak]<;>rfl)|(simp [*,aj,ak]<;>rfl),by first|exact Kd.cl _ _ _ _ _|exact Kd.ju _ _ _ _ _|exact Kd.jv _ _ _ _ _|exact Kd.jr _ _ _ _ _|exact Kd.js _ _ _ _ _,bz HB⟩
 ·rw [ax c2] at H
  have kg:decide (65507<(cA.length:Int))=false:=gO c2;have mG:decide (65507<cA.length)=false:=gO (by omega);clear c2;obtain ⟨UX,RT⟩:∃ y_:List Int,y_=(([aV,bh]:List Int)):=⟨_,rfl⟩
  rw [<- RT] at H
  have XE:=aa.mk RT;clear RT;replace H:=cZ H;obtain ⟨GQ,CM,H⟩:=H
  (try dsimp -simprocs only at H)
  have A5:=aa.mk CM;clear CM;replace H:=cZ H;obtain ⟨Eu,wq,H⟩:=H
  (try dsimp -simprocs only at H)
  have A6:=aa.mk wq;clear wq
  by_cases c7:Eu.length+cA.length<140737488355328
  ·rw [au c7] at H
   have FJ:=aa.mk c7;clear c7;obtain ⟨Aue,RU⟩:∃ y_:List Int,y_=(Eu++cA):=⟨_,rfl⟩
   rw [<- RU] at H
   have Agc:=aa.mk RU;clear RU;simp only [Option.some.injEq,Prod.mk.injEq] at H
   obtain ⟨rfl,rfl⟩:=H
   go_enter Try.func55,Try.ntmps55
   try go_wp2_with (first|((with_reducible refine aA (N:=1) rfl ?_);refine aC ?hg (N:=1) ?hd (cs:= #[.int .u8 aV,.int .u8 bh,.int .u16 bp,.int .u32 bw,.slice fE cA.length fF]) (t:=101) ?hr ?_;(case hd=>rfl);(case hg=>rfl);(case hr=>first|(go_simp;done)|(go_simp;rfl));intro pG hg w8 bK hb;have aJ:=aa.mk (aq (bz HB) hb);have aQ:=aa.mk (bK);have bt:=aa.mk ((by rw [hg];exact (af (bz HB)):w.heap.size<=pG));have cr:=aa.mk ((by rw [hg];exact (af (bz HB)):w.heap.size<=pG));clear HB;have HB:=aJ;have fI:=aQ;have Aga:=bt;have Agb:=cr;clear aJ aQ bt cr;clear hb bK hg;have CO:w8.cell? ⟨pG,0,none⟩=some (.int .u8 aV):=cz fI.out 0 rfl;have CP:w8.cell? ⟨pG,1,none⟩=some (.int .u8 bh):=cz fI.out 1 rfl;have CQ:w8.cell? ⟨pG,2,none⟩=some (.int .u16 bp):=cz fI.out 2 rfl;have CR:w8.cell? ⟨pG,3,none⟩=some (.int .u32 bw):=cz fI.out 3 rfl;have Gl:w8.cell? ⟨pG,4,none⟩=some (.slice fE cA.length fF):=cz fI.out 4 rfl;have CS:=ae fI.out 0;have CT:=ae fI.out 1;have CU:=ae fI.out 2;have CV:=ae fI.out 3;have Gm:=ae fI.out 4))
   have aJ:=aa.mk (aK fI.out);have aQ:=aa.mk (bf HB.out);clear fI;clear HB;have fI:=aJ;have HB:=aQ;clear aJ aQ;refine dg (n:=16) (S:=fun w'=>w'.cell? ⟨pG,0,none⟩=some (.int .u8 aV) /\ w'.cell? ⟨pG,1,none⟩=some (.int .u8 bh) /\ w'.cell? ⟨pG,2,none⟩=some (.int .u16 bp) /\ w'.cell? ⟨pG,3,none⟩=some (.int .u32 bw) /\ w'.cell? ⟨pG,4,none⟩=some (.slice fE cA.length fF)) (ds:=[]) #[false,false,false,false,false,false,false,false,false,false,false,false,false,false,false,false] (by kernel_rfl) rfl rfl ⟨cz fI.out 0 rfl,cz fI.out 1 rfl,cz fI.out 2 rfl,cz fI.out 3 rfl,cz fI.out 4 rfl⟩ (fun hHeld=> ?_);refine bH bG.KD bG.CA (fun az dW=> ?_);generalize w8.drew=j4 at fI HB hHeld|-
   refine pz 0 8 az ?_;refine pz 2 10 az ?_;refine pz 5 13 az ?_;refine pz 8 16 az ?_;refine pz 11 19 az ?_;refine gK (i:=1) (N:=some 9) (v:= ?_) (a':= ?_) #[true,true,true,false,false,true,false,false,true,false,false,true,false,false,false,false] rfl rfl (dn az.out dW.out (by kernel_rfl)) (fun _ _ _ h=>h) (Or.inl ⟨by rfl, ?_⟩) hHeld ?_ ?_
   rotate_left
   ·rintro w' ⟨s0,s1,s2,s3,s4⟩
    go_simp
    with_reducible rfl
   rotate_left
   ·simp only [pL]
    rfl
   refine gK (i:=3) (N:=some 11) (v:= ?_) (a':= ?_) #[true,true,true,true,false,true,false,false,true,false,false,true,false,false,false,false] rfl rfl (dn az.out dW.out (by kernel_rfl)) (fun _ _ _ h=>h) (Or.inl ⟨by rfl, ?_⟩) hHeld ?_ ?_
   rotate_left
   ·rintro w' ⟨s0,s1,s2,s3,s4⟩
    go_simp
    with_reducible rfl
   rotate_left
   ·simp only [pL]
    rfl
   refine gK (i:=6) (N:=some 14) (v:= ?_) (a':= ?_) #[true,true,true,true,false,true,true,false,true,false,false,true,false,false,false,false] rfl rfl (dn az.out dW.out (by kernel_rfl)) (fun _ _ _ h=>h) (Or.inl ⟨by rfl, ?_⟩) hHeld ?_ ?_
   rotate_left
   ·rintro w' ⟨s0,s1,s2,s3,s4⟩
    go_simp
    with_reducible rfl
   rotate_left
   ·simp only [pL]
    rfl
   refine gK (i:=9) (N:=some 17) (v:= ?_) (a':= ?_) #[true,true,true,true,false,true,true,false,true,true,false,true,false,false,false,false] rfl rfl (dn az.out dW.out (by kernel_rfl)) (fun _ _ _ h=>h) (Or.inl ⟨by rfl, ?_⟩) hHeld ?_ ?_
   rotate_left
   ·rintro w' ⟨s0,s1,s2,s3,s4⟩
    go_simp
    with_reducible rfl
   rotate_left
   ·simp only [pL]
    rfl
   refine gK (i:=12) (N:=some 20) (v:= ?_) (a':= ?_) #[true,true,true,true,false,true,true,false,true,true,false,true,true,false,false,false] rfl rfl (dn az.out dW.out (by kernel_rfl)) (fun _ _ _ h=>h) (Or.inl ⟨by rfl, ?_⟩) hHeld ?_ ?_
   rotate_left
   ·rintro w' ⟨s0,s1,s2,s3,s4⟩
    go_simp
    with_reducible rfl
   rotate_left
   ·simp only [pL]
    rfl
   refine oz 4 (some 12) az (fun K hK=> ?_);refine Kd.qw (Kd.int .u8) _ 5 ?hg (N:=12) ?hd (xs:=([aV,bh]:List Int)) (inner:=[.int .u8 aV,.int .u8 bh]) (ok:=fun _=>True) (rq:=fun _=>True) ?hr ?hp (fun _ hk=>hk) trivial (Below.refl _ _) (Nat.le_refl _) (by simp) ?_;(case hd=>rfl);(case hg=>rfl);(case hr=>first|(go_simp;done)|(go_simp;rfl));(case hp=>exact (cI.one (show Kd.M (Kd.int .u8) _ _ _ aV [.int .u8 aV] from rfl) (cI.one (show Kd.M (Kd.int .u8) _ _ _ bh [.int .u8 bh] from rfl) (cI.none _ _))));intro Auf qf Av hb gJ iM;clear gJ iM
   (first|rw [<- XE.out] at Av|(simp only [Int.reduceToNat] at Av;rw [<- XE.out] at Av))
   have aJ:=aa.mk (Kd.bP Av (af (bz HB)));have aQ:=aa.mk (bn (kz fI) hb);have bt:=aa.mk (aq (bz HB) hb);clear fI;clear HB;have M6:=aJ;have fI:=aQ;have HB:=bt;clear aJ aQ bt;clear hb Av;obtain ⟨Jw,Jx,Lx⟩:=Kd.da M6.out
   (first|subst Lx|(injection Lx with mY rD mZ;have rE:=mY.symm;have rF:=mZ.symm;clear mY rD mZ;subst rE;subst rF))
   refine hK.out _ _ ⟨cz fI.out 0 rfl,cz fI.out 1 rfl,cz fI.out 2 rfl,cz fI.out 3 rfl,cz fI.out 4 rfl⟩ (fun hHeld=> ?_);clear hK K;refine nz 12 ?_;refine oz 7 (some 15) az (fun K hK=> ?_);refine gG Try.func83 #[.slice Jw UX.length Jx,.int .u16 bp] ?_
   with_reducible refine (bq.calls (fun k_=>some k_=(.slice Jw UX.length Jx:Value).ownBlock) (.slice Jw UX.length Jx) UX bp GQ w _ ?aG ?aH A5.out).mono ?_
   (case aG=>exact bz HB)
   (case aH=>exact Kd.kR rfl M6.out)
   rintro e qN ⟨Aug,rfl,gE,hb,hkp⟩;refine ⟨_,rfl, ?_⟩;have aJ:=aa.mk (jf (kz fI) hkp (fun hs_=>(fun e_=>(Kd.nw M6.out fI.out (by decide)) e_) hs_));have aQ:=aa.mk (Kd.dm (ok':=fun k_=>True) gE (fun k_ ql=>trivial));have bt:=aa.mk (hb);clear fI;clear HB;clear M6;have fI:=aJ;have M7:=aQ;have HB:=bt;clear aJ aQ bt
   (try clear hb)
   (try clear hkp)
   (try clear gE)
   obtain ⟨UY,UZ,U0⟩:=Kd.da M7.out
   (first|subst U0|(injection U0 with mY rD mZ;have rE:=mY.symm;have rF:=mZ.symm;clear mY rD mZ;subst rE;subst rF))
   refine hK.out _ _ ⟨cz fI.out 0 rfl,cz fI.out 1 rfl,cz fI.out 2 rfl,cz fI.out 3 rfl,cz fI.out 4 rfl⟩ (fun hHeld=> ?_);clear hK K;refine nz 15 ?_;refine oz 10 (some 18) az (fun K hK=> ?_);refine gG Try.func84 #[.slice UY GQ.length UZ,.int .u32 bw] ?_
   with_reducible refine (dK.calls (fun k_=>some k_=(.slice UY GQ.length UZ:Value).ownBlock) (.slice UY GQ.length UZ) GQ bw Eu w _ ?aG ?aH A6.out).mono ?_
   (case aG=>exact bz HB)
   (case aH=>exact Kd.kR rfl M7.out)
   rintro e qM ⟨Anw,rfl,gE,hb,hkp⟩;refine ⟨_,rfl, ?_⟩;have aJ:=aa.mk (jf (kz fI) hkp (fun hs_=>(fun e_=>(Kd.nw M7.out fI.out (by decide)) e_) hs_));have aQ:=aa.mk (Kd.dm (ok':=fun k_=>True) gE (fun k_ ql=>trivial));have bt:=aa.mk (hb);clear fI;clear HB;clear M7;have fI:=aJ;have RV:=aQ;have HB:=bt;clear aJ aQ bt
   (try clear hb)
   (try clear hkp)
   (try clear gE)
   refine hK.out _ _ ⟨cz fI.out 0 rfl,cz fI.out 1 rfl,cz fI.out 2 rfl,cz fI.out 3 rfl,cz fI.out 4 rfl⟩ (fun hHeld=> ?_);clear hK K;refine nz 18 ?_;refine oz 13 (some 21) az (fun K hK=> ?_);refine Kd.jB (Kd.int .u8) (w0:=w) w.heap.size (by rfl) (.tmp 18) (.tmp 20) 23 5 (.int .u8 0) 1 rfl Try.underlying23 gB rfl (by decide) (by omega) Anw Eu cA _ _ _ (fun _=>True) (fun _=>False) rfl rfl ?aO ?aR (fun _ _ h=>h) (fun _ h=>h.elim) ?aF ?aB ?aS ?aL ?_
   (case aR=>exact Kd.aU oh.out (bz HB))
   (case aB=>exact bz HB)
   (case aF=>exact (fun _ _=>trivial))
   (case aO=>exact (Kd.rz RV))
   (case aS=>exact (af (bz HB)))
   (case aL=>have:=FJ.out;omega)
   intro Auh Bm ho hb hg hat;rw [<- Agc.out] at ho
   have aJ:=aa.mk (gV (kz fI) hg (Kd.nw RV.out fI.out (by decide)));have aQ:=aa.mk (hb);have bt:=aa.mk (ho);clear fI;clear HB;clear RV;have fI:=aJ;have HB:=aQ;have Agd:=bt;clear aJ aQ bt;clear ho hb hg hat;refine hK.out _ _ ⟨cz fI.out 0 rfl,cz fI.out 1 rfl,cz fI.out 2 rfl,cz fI.out 3 rfl,cz fI.out 4 rfl⟩ (fun hHeld=> ?_);clear hK K;refine nz 21 ?_;refine pz 14 2 az ?_;refine pz 15 3 az ?_;refine dz az ?_
   try go_wp2
   go_ret2
   exact ⟨_,by first|rfl|(simp [aj,ak]<;>rfl)|(simp [*,aj,ak]<;>rfl),by (with_reducible repeat (first|apply Kd.eX|apply Kd.eT|apply Kd.eY));exact Agd.out,bz HB⟩
  ·rw [ax c7] at H
   cases H
def eW.f (k:Nat) (aV:Int) (bh:Int) (bp:Int) (bw:Int) (cA:List Int):Option (Int):=(bG.f aV bh 0 bw cA).bind fun Jy=>(if Jy.2=0 then ((iK.f k Jy.1).bind fun RW=>(some RW)) else (some 0))
theorem eW.calls (k:Nat) (aV:Int) (bh:Int) (bp:Int) (bw:Int) (fE:Option Addr) (fF:Nat) (cA:List Int) (r:Int) (w:World) (jU:Kd.C (Kd.int .u8) w fE cA.length cA) (jV:cA.length<=fF) (h:eW.f k aV bh bp bw cA=some r):
  Calls Try.prog 54 #[.agg #[.int .u8 aV,.int .u8 bh,.int .u16 bp,.int .u32 bw,.slice fE cA.length fF]] w fun e w'=>e= .returned (.int .u16 r) /\ Below w.heap.size w w':=by
 have ny:=Try.underlying101;have oh:=aa.mk jU;have o7:=aa.mk jV;clear jU jV;have HB:=gj w;have H:((bG.f aV bh 0 bw cA).bind fun Jy=>(if Jy.2=0 then ((iK.f k Jy.1).bind fun RW=>(some RW)) else (some 0)))=some r:=h;clear h;replace H:=cZ H;obtain ⟨⟨U1,Ly⟩,uJ,H⟩:=H
 (try dsimp -simprocs only at H)
 have A2:=aa.mk uJ;clear uJ
 by_cases c3:Ly=0
 ·rw [au c3] at H
  have oY:(Ly==0)=true:=fH c3;have qP:(Ly !=0)=false:=kO c3;clear c3;replace H:=cZ H;obtain ⟨RW,qA,H⟩:=H
  (try dsimp -simprocs only at H)
  have A4:=aa.mk qA;clear qA;obtain rfl:=cS H
  go_enter Try.func54,Try.ntmps54
  go_wp2_with (first|((with_reducible refine aA (N:=1) rfl ?_);refine aC ?hg (N:=1) ?hd (cs:= #[.int .u8 aV,.int .u8 bh,.int .u16 bp,.int .u32 bw,.slice fE cA.length fF]) (t:=101) ?hr ?_;(case hd=>rfl);(case hg=>rfl);(case hr=>first|(go_simp;done)|(go_simp;rfl));intro q7 hg w5 bK hb;have aJ:=aa.mk (aq (bz HB) hb);have aQ:=aa.mk (bK);have bt:=aa.mk ((by rw [hg];exact (af (bz HB)):w.heap.size<=q7));have cr:=aa.mk ((by rw [hg];exact (af (bz HB)):w.heap.size<=q7));clear HB;have HB:=aJ;have lq:=aQ;have Age:=bt;have Agf:=cr;clear aJ aQ bt cr;clear hb bK hg;have FR:w5.cell? ⟨q7,0,none⟩=some (.int .u8 aV):=cz lq.out 0 rfl;have FT:w5.cell? ⟨q7,1,none⟩=some (.int .u8 bh):=cz lq.out 1 rfl;have FU:w5.cell? ⟨q7,2,none⟩=some (.int .u16 bp):=cz lq.out 2 rfl;have FV:w5.cell? ⟨q7,3,none⟩=some (.int .u32 bw):=cz lq.out 3 rfl;have QO:w5.cell? ⟨q7,4,none⟩=some (.slice fE cA.length fF):=cz lq.out 4 rfl;have FW:=ae lq.out 0;have FX:=ae lq.out 1;have FY:=ae lq.out 2;have FZ:=ae lq.out 3;have QS:=ae lq.out 4)|((with_reducible refine ay (f:=55) rfl ?_);refine gL 8 Try.func55 #[.agg #[.int .u8 aV,.int .u8 bh,.int .u16 0,.int .u32 bw,.slice fE cA.length fF]] ?_;(with_reducible refine (bG.calls aV bh 0 bw _ _ cA U1 Ly _ ?aG ?aH A2.out).mono ?_);(case aG=>exact Kd.aU oh.out (bz HB));(case aH=>exact o7.out);rintro e w7 ⟨Anx,rfl,gE,hb⟩;refine ⟨_,rfl, ?_⟩;have aJ:=aa.mk (Kd.bP gE (af (bz HB)));have aQ:=aa.mk (bn (g:=q7) (o:= .cells #[.int .u8 aV,.int .u8 bh,.int .u16 0,.int .u32 bw,.slice fE cA.length fF] 101 (0,0)) (by (with_reducible repeat (first|refine aN ?_ _|refine aK ?_|refine aM ?_ _));refine bM (cs:= #[.int .u8 aV,.int .u8 bh,.int .u16 bp,.int .u32 bw,.slice fE cA.length fF]) ?_ 2 _ rfl;(with_reducible repeat (first|refine aN ?_ _|refine aK ?_|refine aM ?_ _));exact lq.out) hb);have bt:=aa.mk (aq (bz HB) hb);clear lq;clear HB;have Dj:=aJ;have lq:=aQ;have HB:=bt;clear aJ aQ bt;(try clear hb);(try clear hb2);(try clear hk);(try clear hi);(try clear gE);obtain ⟨Ao8,co8,eo8⟩:=Kd.da Dj.out;subst eo8)|((with_reducible refine ay (f:=85) rfl ?_);refine gL 14 Try.func85 #[.slice Ao8 U1.length co8] ?_;(with_reducible refine (iK.calls k _ _ U1 RW _ ?aG ?aH A4.out).mono ?_);(case aG=>repeat (first|exact (Kd.av Dj.out).2.2|(with_reducible refine Kd.fD ?_ _)|(with_reducible refine Kd.fj ?_ _)|(with_reducible refine Kd.gP ?_)));(case aH=>exact (Kd.av Dj.out).2.1);rintro e w9 ⟨rfl,hb⟩;refine ⟨_,rfl, ?_⟩;have aJ:=aa.mk (Kd.fU (Kd.rz Dj) hb);have aQ:=aa.mk (bn (kz lq) hb);have bt:=aa.mk (aq (bz HB) hb);clear Dj;clear lq;clear HB;have Dj:=aJ;have lq:=aQ;have HB:=bt;clear aJ aQ bt;(try clear hb);(try clear hb2);(try clear hk);(try clear hi)))
  go_ret
  exact ⟨by first|rfl|(simp [aj,ak]<;>rfl)|(simp [*,aj,ak]<;>rfl),bz HB⟩
 ·rw [ax c3] at H
  have oY:(Ly==0)=false:=fc c3;have qP:(Ly !=0)=true:=lA c3;obtain rfl:=cS H
  go_enter Try.func54,Try.ntmps54
  go_wp2_with (first|((with_reducible refine aA (N:=1) rfl ?_);refine aC ?hg (N:=1) ?hd (cs:= #[.int .u8 aV,.int .u8 bh,.int .u16 bp,.int .u32 bw,.slice fE cA.length fF]) (t:=101) ?hr ?_;(case hd=>rfl);(case hg=>rfl);(case hr=>first|(go_simp;done)|(go_simp;rfl));intro q7 hg j4 bK hb;have aJ:=aa.mk (aq (bz HB) hb);have aQ:=aa.mk (bK);have bt:=aa.mk ((by rw [hg];exact (af (bz HB)):w.heap.size<=q7));have cr:=aa.mk ((by rw [hg];exact (af (bz HB)):w.heap.size<=q7));clear HB;have HB:=aJ;have lq:=aQ;have Age:=bt;have Agf:=cr;clear aJ aQ bt cr;clear hb bK hg;have vB:j4.cell? ⟨q7,0,none⟩=some (.int .u8 aV):=cz lq.out 0 rfl;have vC:j4.cell? ⟨q7,1,none⟩=some (.int .u8 bh):=cz lq.out 1 rfl;have vD:j4.cell? ⟨q7,2,none⟩=some (.int .u16 bp):=cz lq.out 2 rfl;have vE:j4.cell? ⟨q7,3,none⟩=some (.int .u32 bw):=cz lq.out 3 rfl;have Gn:j4.cell? ⟨q7,4,none⟩=some (.slice fE cA.length fF):=cz lq.out 4 rfl;have vF:=ae lq.out 0;have vG:=ae lq.out 1;have vH:=ae lq.out 2;have vI:=ae lq.out 3;have Gp:=ae lq.out 4)|((with_reducible refine ay (f:=55) rfl ?_);refine gL 8 Try.func55 #[.agg #[.int .u8 aV,.int .u8 bh,.int .u16 0,.int .u32 bw,.slice fE cA.length fF]] ?_;(with_reducible refine (bG.calls aV bh 0 bw _ _ cA U1 Ly _ ?aG ?aH A2.out).mono ?_);(case aG=>exact Kd.aU oh.out (bz HB));(case aH=>exact o7.out);rintro e l5 ⟨Anx,rfl,gE,hb⟩;refine ⟨_,rfl, ?_⟩;have aJ:=aa.mk (Kd.bP gE (af (bz HB)));have aQ:=aa.mk (bn (g:=q7) (o:= .cells #[.int .u8 aV,.int .u8 bh,.int .u16 0,.int .u32 bw,.slice fE cA.length fF] 101 (0,0)) (by (with_reducible repeat (first|refine aN ?_ _|refine aK ?_|refine aM ?_ _));refine bM (cs:= #[.int .u8 aV,.int .u8 bh,.int .u16 bp,.int .u32 bw,.slice fE cA.length fF]) ?_ 2 _ rfl;(with_reducible repeat (first|refine aN ?_ _|refine aK ?_|refine aM ?_ _));exact lq.out) hb);have bt:=aa.mk (aq (bz HB) hb);clear lq;clear HB;have Dj:=aJ;have lq:=aQ;have HB:=bt;clear aJ aQ bt;(try clear hb);(try clear hb2);(try clear hk);(try clear hi);(try clear gE)))
  go_ret
  exact ⟨by first|rfl|(simp [aj,ak]<;>rfl)|(simp [*,aj,ak]<;>rfl),bz HB⟩
def jn.f (k:Nat) (a0:Int) (a1:Int) (cT:Int) (cU:Int) (cY:Int) (fu:List Int):Option (Int):=(bT.f cT cU 0 fu).bind fun Dk=>(if Dk.2=0 then ((ez.f k a0 a1 17 (Dk.1.length:Int)).bind fun Ew=>((bZ.f k Ew Dk.1).bind fun Ex=>((bO.f k Ex).bind fun AE=>(if (Go.bits .xor .u16 IntKind.u16.max AE)=0 then (some 65535) else (some (Go.bits .xor .u16 IntKind.u16.max AE)))))) else (some 0))
theorem jn.calls (k:Nat) (a0:Int) (a1:Int) (cT:Int) (cU:Int) (cY:Int) (iU:Option Addr) (iV:Nat) (fu:List Int) (r:Int) (w:World) (sZ:Kd.C (Kd.int .u8) w iU fu.length fu) (tg:fu.length<=iV) (h:jn.f k a0 a1 cT cU cY fu=some r):
  Calls Try.prog 72 #[.int .u32 a0,.int .u32 a1,.agg #[.int .u16 cT,.int .u16 cU,.int .u16 cY,.slice iU fu.length iV]] w fun e w'=>e= .returned (.int .u16 r) /\ Below w.heap.size w w':=by
 have wB:=Try.underlying83;have zj:IntKind.u16.signed=false:=rfl;have sJ:=aa.mk sZ;have sK:=aa.mk tg;clear sZ tg;have HB:=gj w;have H:((bT.f cT cU 0 fu).bind fun Dk=>(if Dk.2=0 then ((ez.f k a0 a1 17 (Dk.1.length:Int)).bind fun Ew=>((bZ.f k Ew Dk.1).bind fun Ex=>((bO.f k Ex).bind fun AE=>(if (Go.bits .xor .u16 IntKind.u16.max AE)=0 then (some 65535) else (some (Go.bits .xor .u16 IntKind.u16.max AE)))))) else (some 0)))=some r:=h;clear h;replace H:=cZ H;obtain ⟨⟨Dl,Jz⟩,qA,H⟩:=H
 (try dsimp -simprocs only at H)
 have A4:=aa.mk qA;clear qA
 by_cases c5:Jz=0
 ·rw [au c5] at H
  have mS:(Jz==0)=true:=fH c5;have qz:(Jz !=0)=false:=kO c5;clear c5;replace H:=cZ H;obtain ⟨Ew,wq,H⟩:=H
  (try dsimp -simprocs only at H)
  have A6:=aa.mk wq;clear wq;replace H:=cZ H;obtain ⟨Ex,Bc,H⟩:=H
  (try dsimp -simprocs only at H)
  have A7:=aa.mk Bc;clear Bc;replace H:=cZ H;obtain ⟨AE,Jv,H⟩:=H
  (try dsimp -simprocs only at H)
  have A8:=aa.mk Jv;clear Jv
  by_cases c9:(Go.bits .xor .u16 IntKind.u16.max AE)=0
  ·rw [au c9] at H
   have wT:((Go.bits .xor .u16 IntKind.u16.max AE)==0)=true:=fH c9;have NK:((Go.bits .xor .u16 IntKind.u16.max AE) !=0)=false:=kO c9;clear c9;obtain rfl:=cS H
   go_enter Try.func72,Try.ntmps72
   go_wp2_with (first|((with_reducible refine aA (N:=5) rfl ?_);refine aC ?hg (N:=5) ?hd (cs:= #[.int .u16 cT,.int .u16 cU,.int .u16 cY,.slice iU fu.length iV]) (t:=83) ?hr ?_;(case hd=>rfl);(case hg=>rfl);(case hr=>first|(go_simp;done)|(go_simp;rfl));intro nK hg j4 bK hb;have aJ:=aa.mk (aq (bz HB) hb);have aQ:=aa.mk (bK);have bt:=aa.mk ((by rw [hg];exact (af (bz HB)):w.heap.size<=nK));have cr:=aa.mk ((by rw [hg];exact (af (bz HB)):w.heap.size<=nK));clear HB;have HB:=aJ;have iZ:=aQ;have XF:=bt;have XG:=cr;clear aJ aQ bt cr;clear hb bK hg;have vB:j4.cell? ⟨nK,0,none⟩=some (.int .u16 cT):=cz iZ.out 0 rfl;have vC:j4.cell? ⟨nK,1,none⟩=some (.int .u16 cU):=cz iZ.out 1 rfl;have vD:j4.cell? ⟨nK,2,none⟩=some (.int .u16 cY):=cz iZ.out 2 rfl;have vE:j4.cell? ⟨nK,3,none⟩=some (.slice iU fu.length iV):=cz iZ.out 3 rfl;have vF:=ae iZ.out 0;have vG:=ae iZ.out 1;have vH:=ae iZ.out 2;have vI:=ae iZ.out 3)|((with_reducible refine ay (f:=48) rfl ?_);refine gL 13 Try.func48 #[.agg #[.int .u16 cT,.int .u16 cU,.int .u16 0,.slice iU fu.length iV]] ?_;(with_reducible refine (bT.calls cT cU 0 _ _ fu Dl Jz _ ?aG ?aH A4.out).mono ?_);(case aG=>exact Kd.aU sJ.out (bz HB));(case aH=>exact sK.out);rintro e l5 ⟨Agg,rfl,gE,hb⟩;refine ⟨_,rfl, ?_⟩;have aJ:=aa.mk (Kd.bP gE (af (bz HB)));have aQ:=aa.mk (bn (g:=nK) (o:= .cells #[.int .u16 cT,.int .u16 cU,.int .u16 0,.slice iU fu.length iV] 83 (0,0)) (by (with_reducible repeat (first|refine aN ?_ _|refine aK ?_|refine aM ?_ _));refine bM (cs:= #[.int .u16 cT,.int .u16 cU,.int .u16 cY,.slice iU fu.length iV]) ?_ 2 _ rfl;(with_reducible repeat (first|refine aN ?_ _|refine aK ?_|refine aM ?_ _));exact iZ.out) hb);have bt:=aa.mk (aq (bz HB) hb);clear iZ;clear HB;have tM:=aJ;have iZ:=aQ;have HB:=bt;clear aJ aQ bt;(try clear hb);(try clear hb2);(try clear hk);(try clear hi);(try clear gE);obtain ⟨Jw,Jx,Lx⟩:=Kd.da tM.out;subst Lx)|((with_reducible refine ay (f:=82) rfl ?_);refine gL 22 Try.func82 #[.int .u32 a0,.int .u32 a1,.int .u8 17,.int .i64 (Dl.length:Int)] ?_;(with_reducible refine (ez.calls k a0 a1 17 (Dl.length:Int) Ew _ A6.out).mono ?_);rintro e w' ⟨rfl,⟨nd,rfl⟩⟩;refine ⟨_,rfl, ?_⟩)|((with_reducible refine ay (f:=80) rfl ?_);refine gL 24 Try.func80 #[.int .u32 Ew,.slice Jw Dl.length Jx] ?_;(with_reducible refine (bZ.calls k Ew _ _ Dl Ex _ ?aG ?aH A7.out).mono ?_);(case aG=>repeat (first|exact (Kd.av tM.out).2.2|(with_reducible refine Kd.fD ?_ _)|(with_reducible refine Kd.fj ?_ _)|(with_reducible refine Kd.gP ?_)));(case aH=>exact (Kd.av tM.out).2.1);rintro e qN ⟨rfl,hb⟩;refine ⟨_,rfl, ?_⟩;have aJ:=aa.mk (Kd.fU (Kd.rz tM) hb);have aQ:=aa.mk (bn (kz iZ) hb);have bt:=aa.mk (aq (bz HB) hb);clear tM;clear iZ;clear HB;have tM:=aJ;have iZ:=aQ;have HB:=bt;clear aJ aQ bt;(try clear hb);(try clear hb2);(try clear hk);(try clear hi))|((with_reducible refine ay (f:=79) rfl ?_);refine gL 25 Try.func79 #[.int .u32 Ex] ?_;(with_reducible refine (bO.calls k Ex AE _ A8.out).mono ?_);rintro e w' ⟨rfl,⟨nd,rfl⟩⟩;refine ⟨_,rfl, ?_⟩))
   go_ret
   exact ⟨by first|rfl|(simp [aj,ak]<;>rfl)|(simp [*,aj,ak]<;>rfl),bz HB⟩
  ·rw [ax c9] at H
   have wT:((Go.bits .xor .u16 IntKind.u16.max AE)==0)=false:=fc c9;have NK:((Go.bits .xor .u16 IntKind.u16.max AE) !=0)=true:=lA c9;obtain rfl:=cS H
   go_enter Try.func72,Try.ntmps72
   go_wp2_with (first|((with_reducible refine aA (N:=5) rfl ?_);refine aC ?hg (N:=5) ?hd (cs:= #[.int .u16 cT,.int .u16 cU,.int .u16 cY,.slice iU fu.length iV]) (t:=83) ?hr ?_;(case hd=>rfl);(case hg=>rfl);(case hr=>first|(go_simp;done)|(go_simp;rfl));intro nK hg yE bK hb;have aJ:=aa.mk (aq (bz HB) hb);have aQ:=aa.mk (bK);have bt:=aa.mk ((by rw [hg];exact (af (bz HB)):w.heap.size<=nK));have cr:=aa.mk ((by rw [hg];exact (af (bz HB)):w.heap.size<=nK));clear HB;have HB:=aJ;have iZ:=aQ;have XF:=bt;have XG:=cr;clear aJ aQ bt cr;clear hb bK hg;have AiY:yE.cell? ⟨nK,0,none⟩=some (.int .u16 cT):=cz iZ.out 0 rfl;have AiZ:yE.cell? ⟨nK,1,none⟩=some (.int .u16 cU):=cz iZ.out 1 rfl;have Ai0:yE.cell? ⟨nK,2,none⟩=some (.int .u16 cY):=cz iZ.out 2 rfl;have Ai1:yE.cell? ⟨nK,3,none⟩=some (.slice iU fu.length iV):=cz iZ.out 3 rfl;have Ai2:=ae iZ.out 0;have Ai3:=ae iZ.out 1;have Ai4:=ae iZ.out 2;have Ai5:=ae iZ.out 3)|((with_reducible refine ay (f:=48) rfl ?_);refine gL 13 Try.func48 #[.agg #[.int .u16 cT,.int .u16 cU,.int .u16 0,.slice iU fu.length iV]] ?_;(with_reducible refine (bT.calls cT cU 0 _ _ fu Dl Jz _ ?aG ?aH A4.out).mono ?_);(case aG=>exact Kd.aU sJ.out (bz HB));(case aH=>exact sK.out);rintro e Bm ⟨Agg,rfl,gE,hb⟩;refine ⟨_,rfl, ?_⟩;have aJ:=aa.mk (Kd.bP gE (af (bz HB)));have aQ:=aa.mk (bn (g:=nK) (o:= .cells #[.int .u16 cT,.int .u16 cU,.int .u16 0,.slice iU fu.length iV] 83 (0,0)) (by (with_reducible repeat (first|refine aN ?_ _|refine aK ?_|refine aM ?_ _));refine bM (cs:= #[.int .u16 cT,.int .u16 cU,.int .u16 cY,.slice iU fu.length iV]) ?_ 2 _ rfl;(with_reducible repeat (first|refine aN ?_ _|refine aK ?_|refine aM ?_ _));exact iZ.out) hb);have bt:=aa.mk (aq (bz HB) hb);clear iZ;clear HB;have tM:=aJ;have iZ:=aQ;have HB:=bt;clear aJ aQ bt;(try clear hb);(try clear hb2);(try clear hk);(try clear hi);(try clear gE);obtain ⟨U2,U3,Abh⟩:=Kd.da tM.out;subst Abh)|((with_reducible refine ay (f:=82) rfl ?_);refine gL 22 Try.func82 #[.int .u32 a0,.int .u32 a1,.int .u8 17,.int .i64 (Dl.length:Int)] ?_;(with_reducible refine (ez.calls k a0 a1 17 (Dl.length:Int) Ew _ A6.out).mono ?_);rintro e w' ⟨rfl,⟨nd,rfl⟩⟩;refine ⟨_,rfl, ?_⟩)|((with_reducible refine ay (f:=80) rfl ?_);refine gL 24 Try.func80 #[.int .u32 Ew,.slice U2 Dl.length U3] ?_;(with_reducible refine (bZ.calls k Ew _ _ Dl Ex _ ?aG ?aH A7.out).mono ?_);(case aG=>repeat (first|exact (Kd.av tM.out).2.2|(with_reducible refine Kd.fD ?_ _)|(with_reducible refine Kd.fj ?_ _)|(with_reducible refine Kd.gP ?_)));(case aH=>exact (Kd.av tM.out).2.1);rintro e w19 ⟨rfl,hb⟩;refine ⟨_,rfl, ?_⟩;have aJ:=aa.mk (Kd.fU (Kd.rz tM) hb);have aQ:=aa.mk (bn (kz iZ) hb);have bt:=aa.mk (aq (bz HB) hb);clear tM;clear iZ;clear HB;have tM:=aJ;have iZ:=aQ;have HB:=bt;clear aJ aQ bt;(try clear hb);(try clear hb2);(try clear hk);(try clear hi))|((with_reducible refine ay (f:=79) rfl ?_);refine gL 25 Try.func79 #[.int .u32 Ex] ?_;(with_reducible refine (bO.calls k Ex AE _ A8.out).mono ?_);rintro e w' ⟨rfl,⟨nd,rfl⟩⟩;refine ⟨_,rfl, ?_⟩))
   go_ret
   exact ⟨by first|rfl|(simp [aj,ak]<;>rfl)|(simp [*,aj,ak]<;>rfl),bz HB⟩
 ·rw [ax c5] at H
  have mS:(Jz==0)=false:=fc c5;have qz:(Jz !=0)=true:=lA c5;obtain rfl:=cS H
  go_enter Try.func72,Try.ntmps72
  go_wp2_with (first|((with_reducible refine aA (N:=5) rfl ?_);refine aC ?hg (N:=5) ?hd (cs:= #[.int .u16 cT,.int .u16 cU,.int .u16 cY,.slice iU fu.length iV]) (t:=83) ?hr ?_;(case hd=>rfl);(case hg=>rfl);(case hr=>first|(go_simp;done)|(go_simp;rfl));intro nK hg UW bK hb;have aJ:=aa.mk (aq (bz HB) hb);have aQ:=aa.mk (bK);have bt:=aa.mk ((by rw [hg];exact (af (bz HB)):w.heap.size<=nK));have cr:=aa.mk ((by rw [hg];exact (af (bz HB)):w.heap.size<=nK));clear HB;have HB:=aJ;have iZ:=aQ;have XF:=bt;have XG:=cr;clear aJ aQ bt cr;clear hb bK hg;have Ai6:UW.cell? ⟨nK,0,none⟩=some (.int .u16 cT):=cz iZ.out 0 rfl;have Ai7:UW.cell? ⟨nK,1,none⟩=some (.int .u16 cU):=cz iZ.out 1 rfl;have Ai8:UW.cell? ⟨nK,2,none⟩=some (.int .u16 cY):=cz iZ.out 2 rfl;have Ai9:UW.cell? ⟨nK,3,none⟩=some (.slice iU fu.length iV):=cz iZ.out 3 rfl;have Aja:=ae iZ.out 0;have Ajb:=ae iZ.out 1;have Ajc:=ae iZ.out 2;have Ajd:=ae iZ.out 3)|((with_reducible refine ay (f:=48) rfl ?_);refine gL 13 Try.func48 #[.agg #[.int .u16 cT,.int .u16 cU,.int .u16 0,.slice iU fu.length iV]] ?_;(with_reducible refine (bT.calls cT cU 0 _ _ fu Dl Jz _ ?aG ?aH A4.out).mono ?_);(case aG=>exact Kd.aU sJ.out (bz HB));(case aH=>exact sK.out);rintro e Ra ⟨Agg,rfl,gE,hb⟩;refine ⟨_,rfl, ?_⟩;have aJ:=aa.mk (Kd.bP gE (af (bz HB)));have aQ:=aa.mk (bn (g:=nK) (o:= .cells #[.int .u16 cT,.int .u16 cU,.int .u16 0,.slice iU fu.length iV] 83 (0,0)) (by (with_reducible repeat (first|refine aN ?_ _|refine aK ?_|refine aM ?_ _));refine bM (cs:= #[.int .u16 cT,.int .u16 cU,.int .u16 cY,.slice iU fu.length iV]) ?_ 2 _ rfl;(with_reducible repeat (first|refine aN ?_ _|refine aK ?_|refine aM ?_ _));exact iZ.out) hb);have bt:=aa.mk (aq (bz HB) hb);clear iZ;clear HB;have tM:=aJ;have iZ:=aQ;have HB:=bt;clear aJ aQ bt;(try clear hb);(try clear hb2);(try clear hk);(try clear hi);(try clear gE)))
  go_ret
  exact ⟨by first|rfl|(simp [aj,ak]<;>rfl)|(simp [*,aj,ak]<;>rfl),bz HB⟩
attribute [local go_sem] dF dG eG eH cQ cR dH dI
def aD.j0:Nat ->Bool ->Int ->Int ->Int ->Int ->Int ->Int ->Int ->Int ->List Int ->List Int ->Option (List Int×Int)
 |0,_,_,_,_,_,_,_,_,_,_,_=>none
 |k+1,x16,U4,U5,U6,U7,U9,Va,Vb,Vc,Ci,GR=>if x16=true then (some (([]:List Int),21)) else (if (GR.length:Int)>(wrap64 (65515 - (wrap64 (20+(Ci.length:Int))))) then (some (([]:List Int),23)) else ((bq.f ([]:List Int) U4).bind fun GS=>((bq.f GS U5).bind fun GU=>((dK.f GU U6).bind fun GV=>((dK.f GV U7).bind fun BG=>((some (([(((wrap64 (Int.tdiv (wrap64 (20+(Ci.length:Int))) 4)) % 256)*16) % 256,U9]:List Int):List Int)).bind fun xj=>(if BG.length+xj.length<140737488355328 then ((bq.f (BG++xj) Va).bind fun Dm=>((bq.f Dm Vb).bind fun Dn=>((bq.f Dn Vc).bind fun AF=>(if AF.length+Ci.length<140737488355328 then ((some (AF++Ci:List Int)).bind fun zT=>(if zT.length+GR.length<140737488355328 then (some ((zT++GR),0)) else (none))) else (none))))) else (none))))))))
def aD.f (k:Nat) (aV:Int) (bh:Int) (bp:Int) (bw:Int) (dQ:Int) (dU:Int) (dZ:Int) (ee:Int) (bN:List Int) (cJ:List Int):Option (List Int×Int):=if ((bN.length:Int) % 4)=0 then (aD.j0 k (decide ((bN.length:Int)>40)) aV bh bp bw dQ dU dZ ee bN cJ) else (aD.j0 k true aV bh bp bw dQ dU dZ ee bN cJ)
def aD.T6:Bool×List (List Nat×List Nat):=(true,[([],[]),([0],[0]),([1],[1]),([],[]),([3],[3]),([2,4,2],[2,4]),([],[]),([6],[6]),([5,7,5],[5,7]),([],[]),([9],[9]),([8,10,8],[8,10]),([11,11,0,1,2,3,4,5,6,7,8,9,10,11],[11])])
def aD.B6:List Nat:=[0,1,3,0,8,31,0,64,255,0,512,2047,4095]
theorem aD.Anz:gS .any (opsOf Try.f75 6)=aD.T6:=by kernel_rfl
theorem aD.Agh:dN aD.T6.2 aD.B6=true:=by kernel_rfl
def aD.T7:Bool×List (List Nat×List Nat):=(true,[([],[]),([],[]),([1],[1]),([2],[2]),([3],[3]),([],[]),([5],[5]),([4,6],[4,6]),([0,7],[0,7]),([],[]),([9],[9]),([8,10,8],[8,10]),([11,11,0,1,2,3,4,5,6,7,8,9,10,11],[0,11])])
def aD.B7:List Nat:=[0,0,2,6,14,0,32,126,255,0,512,2047,4095]
theorem aD.Qe:gS .any (opsOf Try.f75 7)=aD.T7:=by kernel_rfl
theorem aD.Iu:dN aD.T7.2 aD.B7=true:=by kernel_rfl
def aD.T8:Bool×List (List Nat×List Nat):=(true,[([],[]),([],[]),([1],[1]),([0,2],[0,2]),([],[]),([4],[4]),([3,5,3],[3,5]),([6,6,0,1,2,3,4,5,6],[0,6])])
def aD.B8:List Nat:=[0,0,2,7,0,16,63,127]
theorem aD.Ek:gS .any (opsOf Try.f75 8)=aD.T8:=by kernel_rfl
theorem aD.yq:dN aD.T8.2 aD.B8=true:=by kernel_rfl
def aD.T9:Bool×List (List Nat×List Nat):=(true,[([],[]),([],[]),([1],[1]),([0,2],[0,2]),([],[]),([4],[4]),([3,5,3],[3,5]),([6,6,0,1,2,3,4,5,6],[6]),([7,0,1,2,3,4,5,6,7],[])])
def aD.B9:List Nat:=[0,0,2,7,0,16,63,127,255]
theorem aD.Abi:gS .any (opsOf Try.f75 9)=aD.T9:=by kernel_rfl
theorem aD.RX:dN aD.T9.2 aD.B9=true:=by kernel_rfl
theorem aD.calls (k:Nat) (aV:Int) (bh:Int) (bp:Int) (bw:Int) (dQ:Int) (dU:Int) (dZ:Int) (ee:Int) (jw:Option Addr) (jx:Nat) (bN:List Int) (jy:Option Addr) (jz:Nat) (cJ:List Int) (r1:List Int) (r2:Int) (w:World) (tF:Kd.C (Kd.int .u8) w jw bN.length bN) (tG:bN.length<=jx) (tH:Kd.C (Kd.int .u8) w jy cJ.length cJ) (tI:cJ.length<=jz) (h:aD.f k aV bh bp bw dQ dU dZ ee bN cJ=some (r1,r2)):
  Calls Try.prog 75 #[.agg #[.int .u16 aV,.int .u16 bh,.int .u32 bp,.int .u32 bw,.int .u8 dQ,.int .u16 dU,.int .u16 dZ,.int .u16 ee,.slice jw bN.length jx,.slice jy cJ.length jz]] w fun e w'=>∃ o6:Value,e= .returned (.tuple #[o6,.int .i64 r2]) /\ Kd.R (Kd.int .u8) 5 w' w.heap.size (fun _=>True) o6 r1 /\ Below w.heap.size w w':=by
 have qU:=Try.underlying137;have Bi:=aa.mk tF;have IY:=aa.mk tG;clear tF tG;have Bj:=aa.mk tH;have IZ:=aa.mk tI;clear tH tI;have HB:=gj w;have H:(if ((bN.length:Int) % 4)=0 then (aD.j0 k (decide ((bN.length:Int)>40)) aV bh bp bw dQ dU dZ ee bN cJ) else (aD.j0 k true aV bh bp bw dQ dU dZ ee bN cJ))=some (r1,r2):=h;clear h;have K9:=aa.mk H;clear H
 go_enter Try.func75,Try.ntmps75
 go_upto_region 1 with (first|((with_reducible refine aA (N:=1) rfl ?_);(try (refine eN (by rfl) ?_;dsimp only));refine aC ?hg (N:=1) ?hd (cs:= #[.int .u16 aV,.int .u16 bh,.int .u32 bp,.int .u32 bw,.int .u8 dQ,.int .u16 dU,.int .u16 dZ,.int .u16 ee,.slice jw bN.length jx,.slice jy cJ.length jz]) (t:=137) ?hr ?_;(case hd=>rfl);(case hg=>rfl);(case hr=>first|(go_simp;done)|(go_simp;rfl));intro iO hg w3 bK hb;have aJ:=aa.mk (aq (bz HB) hb);have aQ:=aa.mk (bK);have bt:=aa.mk ((by rw [hg];exact (af (bz HB)):w.heap.size<=iO));have cr:=aa.mk ((by rw [hg];exact (af (bz HB)):w.heap.size<=iO));clear HB;have HB:=aJ;have bk:=aQ;have AqY:=bt;have AqZ:=cr;clear aJ aQ bt cr;clear hb bK hg))
 (try simp only [Act.put,List.setIfInBounds_toArray,List.set_cons_zero,List.set_cons_succ])
 go_cut [16] (fun v16 wc=>∃ (kq:Nat) (M8:Bool),v16= .bool M8 /\ aa (aD.j0 kq M8 aV bh bp bw dQ dU dZ ee bN cJ=some (r1,r2)) /\ aa (kq<=k) /\ aa (wc.heap[iO]?=some (.cells #[.int .u16 aV,.int .u16 bh,.int .u32 bp,.int .u32 bw,.int .u8 dQ,.int .u16 dU,.int .u16 dZ,.int .u16 ee,(.slice jw bN.length jx),(.slice jy cJ.length jz)] 137 (0,0))) /\ aa (Below w.heap.size w wc))
 case first=>
  have H:=K9.out;clear K9
  by_cases c4:((bN.length:Int) % 4)=0
  ·rw [au c4] at H
   have mH:(((bN.length:Int) % 4)==0)=true:=fH c4;have xQ:(((bN.length:Int) % 4) !=0)=false:=kO c4;clear c4
   (first|rw [mH]|(simp only [jk,mo];rw [mH])|skip)
   have H':=aa.mk H;clear H;have Ud:=rC bk.out;have Ue:=ae bk.out
   go_wp2
   go_meet
   case rel=>exact ⟨_,(decide ((bN.length:Int)>40)),(by first|rfl|(simp;done)|(simp [*];done)),H',⟨by first|omega|exact Nat.le_refl _⟩,⟨kz bk⟩,⟨bz HB⟩⟩
  ·rw [ax c4] at H
   have mH:(((bN.length:Int) % 4)==0)=false:=fc c4;have xQ:(((bN.length:Int) % 4) !=0)=true:=lA c4
   (first|rw [mH]|(simp only [jk,mo];rw [mH])|skip)
   have H':=aa.mk H;clear H;have MC:=rC bk.out;have MD:=ae bk.out
   go_wp2
   go_meet
   case rel=>exact ⟨_,(true),(by first|rfl|(simp;done)|(simp [*];done)),H',⟨by first|omega|exact Nat.le_refl _⟩,⟨kz bk⟩,⟨bz HB⟩⟩
 case rest=>
  clear K9;obtain ⟨kq,M8,rfl,HA,HJ1,bk,HB⟩:=hcut
  cases kq with
  |zero=>exact absurd HA.out (by simp [aD.j0])
  |succ NY=>
   have H:=HA.out;clear HA;simp only [aD.j0] at H
   by_cases c7:M8=true
   ·subst c7
    have H1:(some (([]:List Int),21))=some (r1,r2):=by rw [au rfl] at H;exact H
    clear H;have H:=H1;clear H1;simp only [Option.some.injEq,Prod.mk.injEq] at H
    obtain ⟨rfl,rfl⟩:=H
    go_wp2
    go_ret2
    exact ⟨_,by first|rfl|(simp [aj,ak]<;>rfl)|(simp [*,aj,ak]<;>rfl),by first|exact Kd.cl _ _ _ _ _|exact Kd.ju _ _ _ _ _|exact Kd.jv _ _ _ _ _|exact Kd.jr _ _ _ _ _|exact Kd.js _ _ _ _ _,bz HB⟩
   ·replace c7:=xP c7
    subst c7
    have H1:(if (cJ.length:Int)>(wrap64 (65515 - (wrap64 (20+(bN.length:Int))))) then (some (([]:List Int),23)) else ((bq.f ([]:List Int) aV).bind fun GS=>((bq.f GS bh).bind fun GU=>((dK.f GU bp).bind fun GV=>((dK.f GV bw).bind fun BG=>((some (([(((wrap64 (Int.tdiv (wrap64 (20+(bN.length:Int))) 4)) % 256)*16) % 256,dQ]:List Int):List Int)).bind fun xj=>(if BG.length+xj.length<140737488355328 then ((bq.f (BG++xj) dU).bind fun Dm=>((bq.f Dm dZ).bind fun Dn=>((bq.f Dn ee).bind fun AF=>(if AF.length+bN.length<140737488355328 then ((some (AF++bN:List Int)).bind fun zT=>(if zT.length+cJ.length<140737488355328 then (some ((zT++cJ),0)) else (none))) else (none))))) else (none))))))))=some (r1,r2):=by rw [ax (show ¬ (false=true) by decide)] at H;exact H
    clear H;have H:=H1;clear H1
    by_cases c8:(cJ.length:Int)>(wrap64 (65515 - (wrap64 (20+(bN.length:Int)))))
    ·rw [au c8] at H
     have nX:decide ((wrap64 (65515 - (wrap64 (20+(bN.length:Int)))))<(cJ.length:Int))=true:=bS c8;clear c8;simp only [Option.some.injEq,Prod.mk.injEq] at H
     obtain ⟨rfl,rfl⟩:=H;have MR:=rC bk.out;have MS:=ae bk.out
     go_wp2
     go_ret2
     exact ⟨_,by first|rfl|(simp [aj,ak]<;>rfl)|(simp [*,aj,ak]<;>rfl),by first|exact Kd.cl _ _ _ _ _|exact Kd.ju _ _ _ _ _|exact Kd.jv _ _ _ _ _|exact Kd.jr _ _ _ _ _|exact Kd.js _ _ _ _ _,bz HB⟩
    ·rw [ax c8] at H
     have nX:decide ((wrap64 (65515 - (wrap64 (20+(bN.length:Int)))))<(cJ.length:Int))=false:=gO c8;clear c8;replace H:=cZ H;obtain ⟨GS,zm,H⟩:=H
     (try dsimp -simprocs only at H)
     have KL:=aa.mk zm;clear zm;replace H:=cZ H;obtain ⟨GU,Iv,H⟩:=H
     (try dsimp -simprocs only at H)
     have A11:=aa.mk Iv;clear Iv;replace H:=cZ H;obtain ⟨GV,zn,H⟩:=H
     (try dsimp -simprocs only at H)
     have TY:=aa.mk zn;clear zn;replace H:=cZ H;obtain ⟨BG,CH,H⟩:=H
     (try dsimp -simprocs only at H)
     have O5:=aa.mk CH;clear CH;obtain ⟨xj,JA⟩:∃ y_:List Int,y_=(([(((wrap64 (Int.tdiv (wrap64 (20+(bN.length:Int))) 4)) % 256)*16) % 256,dQ]:List Int)):=⟨_,rfl⟩
     replace H:(if BG.length+xj.length<140737488355328 then ((bq.f (BG++xj) dU).bind fun Dm=>((bq.f Dm dZ).bind fun Dn=>((bq.f Dn ee).bind fun AF=>(if AF.length+bN.length<140737488355328 then ((some (AF++bN:List Int)).bind fun zT=>(if zT.length+cJ.length<140737488355328 then (some ((zT++cJ),0)) else (none))) else (none))))) else (none))=some (r1,r2):=by first|(rw [JA];with_reducible exact H)|(have kP:=(bA _ _).symm.trans H;rw [JA];with_reducible exact kP)|(have kP:=(bA _ _).symm.trans H;with_reducible exact kP)|with_reducible exact H|(rw [JA];exact H)|exact H
     have XH:=aa.mk JA;clear JA
     by_cases Cb:BG.length+xj.length<140737488355328
     ·rw [au Cb] at H
      have Agi:=aa.mk Cb;clear Cb;obtain ⟨Vd,RY⟩:∃ y_:List Int,y_=(BG++xj):=⟨_,rfl⟩
      rw [<- RY] at H
      have Agj:=aa.mk RY;clear RY;replace H:=cZ H;obtain ⟨Dm,Dp,H⟩:=H
      (try dsimp -simprocs only at H)
      have A15:=aa.mk Dp;clear Dp;replace H:=cZ H;obtain ⟨Dn,wR,H⟩:=H
      (try dsimp -simprocs only at H)
      have O6:=aa.mk wR;clear wR;replace H:=cZ H;obtain ⟨AF,Iw,H⟩:=H
      (try dsimp -simprocs only at H)
      have O7:=aa.mk Iw;clear Iw
      by_cases Us:AF.length+bN.length<140737488355328
      ·rw [au Us] at H
       have Agk:=aa.mk Us;clear Us;obtain ⟨zT,JB⟩:∃ y_:List Int,y_=(AF++bN):=⟨_,rfl⟩
       replace H:(if zT.length+cJ.length<140737488355328 then (some ((zT++cJ),0)) else (none))=some (r1,r2):=by first|(rw [JB];with_reducible exact H)|(have kP:=(bA _ _).symm.trans H;rw [JB];with_reducible exact kP)|(have kP:=(bA _ _).symm.trans H;with_reducible exact kP)|with_reducible exact H|(rw [JB];exact H)|exact H
       have Agl:=aa.mk JB;clear JB
       by_cases Aj:zT.length+cJ.length<140737488355328
       ·rw [au Aj] at H
        have Agm:=aa.mk Aj;clear Aj;obtain ⟨AnA,JC⟩:∃ y_:List Int,y_=(zT++cJ):=⟨_,rfl⟩
        replace H:(some (AnA,0))=some (r1,r2):=by first|(rw [JC];with_reducible exact H)|(have kP:=(bA _ _).symm.trans H;rw [JC];with_reducible exact kP)|(have kP:=(bA _ _).symm.trans H;with_reducible exact kP)|with_reducible exact H|(rw [JC];exact H)|exact H
        have Agn:=aa.mk JC;clear JC;simp only [Option.some.injEq,Prod.mk.injEq] at H
        obtain ⟨rfl,rfl⟩:=H;have Ago:=rC bk.out;have Agp:=ae bk.out
        try go_wp2
        have aJ:=aa.mk (aK bk.out);have aQ:=aa.mk (bf HB.out);clear bk;clear HB;have bk:=aJ;have HB:=aQ;clear aJ aQ
        refine dg (n:=13) (S:=fun w'=>w'.cell? ⟨iO,0,none⟩=some (.int .u16 aV) /\ w'.cell? ⟨iO,1,none⟩=some (.int .u16 bh) /\ w'.cell? ⟨iO,2,none⟩=some (.int .u32 bp) /\ w'.cell? ⟨iO,3,none⟩=some (.int .u32 bw) /\ w'.cell? ⟨iO,4,none⟩=some (.int .u8 dQ) /\ w'.cell? ⟨iO,5,none⟩=some (.int .u16 dU) /\ w'.cell? ⟨iO,6,none⟩=some (.int .u16 dZ) /\ w'.cell? ⟨iO,7,none⟩=some (.int .u16 ee) /\ w'.cell? ⟨iO,8,none⟩=some (.slice jw bN.length jx) /\ w'.cell? ⟨iO,9,none⟩=some (.slice jy cJ.length jz)) (ds:=[]) #[false,false,false,false,false,false,false,false,false,false,false,false,false] (by kernel_rfl) rfl rfl ⟨cz bk.out 0 rfl,cz bk.out 1 rfl,cz bk.out 2 rfl,cz bk.out 3 rfl,cz bk.out 4 rfl,cz bk.out 5 rfl,cz bk.out 6 rfl,cz bk.out 7 rfl,cz bk.out 8 rfl,cz bk.out 9 rfl⟩ (fun hHeld=> ?_);refine bH aD.Anz aD.Agh (fun az dW=> ?_)
        generalize wc.drew=w21 at bk HB hHeld|-
        refine pz 0 27 az ?_;refine pz 3 30 az ?_;refine pz 6 33 az ?_;refine pz 9 36 az ?_;refine gK (i:=1) (N:=some 28) (v:= ?_) (a':= ?_) #[true,true,false,true,false,false,true,false,false,true,false,false,false] rfl rfl (dn az.out dW.out (by kernel_rfl)) (fun _ _ _ h=>h) (Or.inl ⟨by rfl, ?_⟩) hHeld ?_ ?_
        rotate_left
        ·rintro w' ⟨s0,s1,s2,s3,s4,s5,s6,s7,s8,s9⟩
         go_simp
         with_reducible rfl
        rotate_left
        ·simp only [pL]
         rfl
        refine gK (i:=4) (N:=some 31) (v:= ?_) (a':= ?_) #[true,true,false,true,true,false,true,false,false,true,false,false,false] rfl rfl (dn az.out dW.out (by kernel_rfl)) (fun _ _ _ h=>h) (Or.inl ⟨by rfl, ?_⟩) hHeld ?_ ?_
        rotate_left
        ·rintro w' ⟨s0,s1,s2,s3,s4,s5,s6,s7,s8,s9⟩
         go_simp
         with_reducible rfl
        rotate_left
        ·simp only [pL]
         rfl
        refine gK (i:=7) (N:=some 34) (v:= ?_) (a':= ?_) #[true,true,false,true,true,false,true,true,false,true,false,false,false] rfl rfl (dn az.out dW.out (by kernel_rfl)) (fun _ _ _ h=>h) (Or.inl ⟨by rfl, ?_⟩) hHeld ?_ ?_
        rotate_left
        ·rintro w' ⟨s0,s1,s2,s3,s4,s5,s6,s7,s8,s9⟩
         go_simp
         with_reducible rfl
        rotate_left
        ·simp only [pL]
         rfl
        refine gK (i:=10) (N:=some 37) (v:= ?_) (a':= ?_) #[true,true,false,true,true,false,true,true,false,true,true,false,false] rfl rfl (dn az.out dW.out (by kernel_rfl)) (fun _ _ _ h=>h) (Or.inl ⟨by rfl, ?_⟩) hHeld ?_ ?_
        rotate_left
        ·rintro w' ⟨s0,s1,s2,s3,s4,s5,s6,s7,s8,s9⟩
         go_simp
         with_reducible rfl
        rotate_left
        ·simp only [pL]
         rfl
        refine oz 2 (some 29) az (fun K hK=> ?_);refine gG Try.func83 #[.slice none 0 0,.int .u16 aV] ?_;refine (bq.calls (fun k_=>some k_=(.slice none 0 0:Value).ownBlock) (.slice none 0 0) ([]:List Int) aV GS w _ ?aG ?aH KL.out).mono ?_
        (case aG=>exact bz HB)
        (case aH=>exact Kd.cl _ _ _ _ _)
        rintro e Ra ⟨Auk,rfl,gE,hb,hkp⟩;refine ⟨_,rfl, ?_⟩;have aJ:=aa.mk (jf (kz bk) hkp (fun hs_=>(fun e_=>by simp [Value.ownBlock] at e_) hs_));have aQ:=aa.mk (Kd.dm (ok':=fun k_=>True) gE (fun k_ ql=>trivial));have bt:=aa.mk (hb);clear bk;clear HB;have bk:=aJ;have M9:=aQ;have HB:=bt;clear aJ aQ bt
        (try clear hb)
        (try clear hkp)
        (try clear gE)
        obtain ⟨Abk,Ve,RZ⟩:=Kd.da M9.out
        (first|subst RZ|(injection RZ with mY rD mZ;have rE:=mY.symm;have rF:=mZ.symm;clear mY rD mZ;subst rE;subst rF))
        refine hK.out _ _ ⟨cz bk.out 0 rfl,cz bk.out 1 rfl,cz bk.out 2 rfl,cz bk.out 3 rfl,cz bk.out 4 rfl,cz bk.out 5 rfl,cz bk.out 6 rfl,cz bk.out 7 rfl,cz bk.out 8 rfl,cz bk.out 9 rfl⟩ (fun hHeld=> ?_);clear hK K;refine nz 29 ?_;refine oz 5 (some 32) az (fun K hK=> ?_);refine gG Try.func83 #[.slice Abk GS.length Ve,.int .u16 bh] ?_
        with_reducible refine (bq.calls (fun k_=>some k_=(.slice Abk GS.length Ve:Value).ownBlock) (.slice Abk GS.length Ve) GS bh GU w _ ?aG ?aH A11.out).mono ?_
        (case aG=>exact bz HB)
        (case aH=>exact Kd.kR rfl M9.out)
        rintro e Hi ⟨Aul,rfl,gE,hb,hkp⟩;refine ⟨_,rfl, ?_⟩;have aJ:=aa.mk (jf (kz bk) hkp (fun hs_=>(fun e_=>(Kd.nw M9.out bk.out (by decide)) e_) hs_));have aQ:=aa.mk (Kd.dm (ok':=fun k_=>True) gE (fun k_ ql=>trivial));have bt:=aa.mk (hb);clear bk;clear HB;clear M9;have bk:=aJ;have Na:=aQ;have HB:=bt;clear aJ aQ bt
        (try clear hb)
        (try clear hkp)
        (try clear gE)
        obtain ⟨Abl,Abm,Agq⟩:=Kd.da Na.out
        (first|subst Agq|(injection Agq with mY rD mZ;have rE:=mY.symm;have rF:=mZ.symm;clear mY rD mZ;subst rE;subst rF))
        refine hK.out _ _ ⟨cz bk.out 0 rfl,cz bk.out 1 rfl,cz bk.out 2 rfl,cz bk.out 3 rfl,cz bk.out 4 rfl,cz bk.out 5 rfl,cz bk.out 6 rfl,cz bk.out 7 rfl,cz bk.out 8 rfl,cz bk.out 9 rfl⟩ (fun hHeld=> ?_);clear hK K;refine nz 32 ?_;refine oz 8 (some 35) az (fun K hK=> ?_);refine gG Try.func84 #[.slice Abl GU.length Abm,.int .u32 bp] ?_
        with_reducible refine (dK.calls (fun k_=>some k_=(.slice Abl GU.length Abm:Value).ownBlock) (.slice Abl GU.length Abm) GU bp GV w _ ?aG ?aH TY.out).mono ?_
        (case aG=>exact bz HB)
        (case aH=>exact Kd.kR rfl Na.out)
        rintro e w26 ⟨Aum,rfl,gE,hb,hkp⟩;refine ⟨_,rfl, ?_⟩;have aJ:=aa.mk (jf (kz bk) hkp (fun hs_=>(fun e_=>(Kd.nw Na.out bk.out (by decide)) e_) hs_));have aQ:=aa.mk (Kd.dm (ok':=fun k_=>True) gE (fun k_ ql=>trivial));have bt:=aa.mk (hb);clear bk;clear HB;clear Na;have bk:=aJ;have Nb:=aQ;have HB:=bt;clear aJ aQ bt
        (try clear hb)
        (try clear hkp)
        (try clear gE)
        obtain ⟨JD,JE,R1⟩:=Kd.da Nb.out
        (first|subst R1|(injection R1 with mY rD mZ;have rE:=mY.symm;have rF:=mZ.symm;clear mY rD mZ;subst rE;subst rF))
        refine hK.out _ _ ⟨cz bk.out 0 rfl,cz bk.out 1 rfl,cz bk.out 2 rfl,cz bk.out 3 rfl,cz bk.out 4 rfl,cz bk.out 5 rfl,cz bk.out 6 rfl,cz bk.out 7 rfl,cz bk.out 8 rfl,cz bk.out 9 rfl⟩ (fun hHeld=> ?_);clear hK K;refine nz 35 ?_;refine oz 11 (some 38) az (fun K hK=> ?_);refine gG Try.func84 #[.slice JD GV.length JE,.int .u32 bw] ?_
        with_reducible refine (dK.calls (fun k_=>some k_=(.slice JD GV.length JE:Value).ownBlock) (.slice JD GV.length JE) GV bw BG w _ ?aG ?aH O5.out).mono ?_
        (case aG=>exact bz HB)
        (case aH=>exact Kd.kR rfl Nb.out)
        rintro e w28 ⟨AnB,rfl,gE,hb,hkp⟩;refine ⟨_,rfl, ?_⟩;have aJ:=aa.mk (jf (kz bk) hkp (fun hs_=>(fun e_=>(Kd.nw Nb.out bk.out (by decide)) e_) hs_));have aQ:=aa.mk (Kd.dm (ok':=fun k_=>True) gE (fun k_ ql=>trivial));have bt:=aa.mk (hb);clear bk;clear HB;clear Nb;have bk:=aJ;have xk:=aQ;have HB:=bt;clear aJ aQ bt
        (try clear hb)
        (try clear hkp)
        (try clear gE)
        refine hK.out _ _ ⟨cz bk.out 0 rfl,cz bk.out 1 rfl,cz bk.out 2 rfl,cz bk.out 3 rfl,cz bk.out 4 rfl,cz bk.out 5 rfl,cz bk.out 6 rfl,cz bk.out 7 rfl,cz bk.out 8 rfl,cz bk.out 9 rfl⟩ (fun hHeld=> ?_);clear hK K;refine nz 38 ?_;refine pz 12 5 az ?_;refine dz az ?_
        try go_wp2
        have aJ:=aa.mk (Kd.eY xk.out);have aQ:=aa.mk (aK bk.out);have bt:=aa.mk (bf HB.out);clear xk;clear bk;clear HB;have xk:=aJ;have bk:=aQ;have HB:=bt;clear aJ aQ bt
        refine dg (n:=13) (S:=fun w'=>w'.cell? ⟨iO,0,none⟩=some (.int .u16 aV) /\ w'.cell? ⟨iO,1,none⟩=some (.int .u16 bh) /\ w'.cell? ⟨iO,2,none⟩=some (.int .u32 bp) /\ w'.cell? ⟨iO,3,none⟩=some (.int .u32 bw) /\ w'.cell? ⟨iO,4,none⟩=some (.int .u8 dQ) /\ w'.cell? ⟨iO,5,none⟩=some (.int .u16 dU) /\ w'.cell? ⟨iO,6,none⟩=some (.int .u16 dZ) /\ w'.cell? ⟨iO,7,none⟩=some (.int .u16 ee) /\ w'.cell? ⟨iO,8,none⟩=some (.slice jw bN.length jx) /\ w'.cell? ⟨iO,9,none⟩=some (.slice jy cJ.length jz)) (ds:=[]) #[false,false,false,false,false,false,false,false,false,false,false,false,false] (by kernel_rfl) rfl rfl ⟨cz bk.out 0 rfl,cz bk.out 1 rfl,cz bk.out 2 rfl,cz bk.out 3 rfl,cz bk.out 4 rfl,cz bk.out 5 rfl,cz bk.out 6 rfl,cz bk.out 7 rfl,cz bk.out 8 rfl,cz bk.out 9 rfl⟩ (fun hHeld=> ?_);refine bH aD.Qe aD.Iu (fun az dW=> ?_)
        generalize w28.drew=w29 at xk bk HB hHeld|-
        refine pz 0 39 az ?_;refine pz 1 40 az ?_;refine pz 2 41 az ?_;refine pz 3 42 az ?_;refine pz 4 43 az ?_;refine pz 5 44 az ?_;refine pz 9 48 az ?_;refine gK (i:=6) (N:=some 45) (v:= ?_) (a':= ?_) #[true,true,true,true,true,true,true,false,false,true,false,false,false] rfl rfl (dn az.out dW.out (by kernel_rfl)) (fun _ _ _ h=>h) (Or.inl ⟨by rfl, ?_⟩) hHeld ?_ ?_
        rotate_left
        ·rintro w' ⟨s0,s1,s2,s3,s4,s5,s6,s7,s8,s9⟩
         go_simp
         with_reducible rfl
        rotate_left
        ·simp only [pL]
         rfl
        refine gK (i:=10) (N:=some 49) (v:= ?_) (a':= ?_) #[true,true,true,true,true,true,true,false,false,true,true,false,false] rfl rfl (dn az.out dW.out (by kernel_rfl)) (fun _ _ _ h=>h) (Or.inl ⟨by rfl, ?_⟩) hHeld ?_ ?_
        rotate_left
        ·rintro w' ⟨s0,s1,s2,s3,s4,s5,s6,s7,s8,s9⟩
         go_simp
         with_reducible rfl
        rotate_left
        ·simp only [pL]
         rfl
        refine oz 7 (some 46) az (fun K hK=> ?_)
        refine Kd.qw (Kd.int .u8) _ 5 ?hg (N:=46) ?hd (xs:=([(((wrap64 (Int.tdiv (wrap64 (20+(bN.length:Int))) 4)) % 256)*16) % 256,dQ]:List Int)) (inner:=[.int .u8 ((((wrap64 (Int.tdiv (wrap64 (20+(bN.length:Int))) 4)) % 256)*16) % 256),.int .u8 dQ]) (ok:=fun _=>True) (rq:=fun _=>True) ?hr ?hp (fun _ hk=>hk) trivial (Below.refl _ _) (Nat.le_refl _) (by simp) ?_;(case hd=>rfl);(case hg=>rfl);(case hr=>first|(go_simp;done)|(go_simp;simp only [IntKind.wrap_u8,IntKind.wrap_u16,IntKind.wrap_u32];done)|(go_simp;rfl));(case hp=>exact (cI.one (show Kd.M (Kd.int .u8) _ _ _ ((((wrap64 (Int.tdiv (wrap64 (20+(bN.length:Int))) 4)) % 256)*16) % 256) [.int .u8 ((((wrap64 (Int.tdiv (wrap64 (20+(bN.length:Int))) 4)) % 256)*16) % 256)] from rfl) (cI.one (show Kd.M (Kd.int .u8) _ _ _ dQ [.int .u8 dQ] from rfl) (cI.none _ _))))
        intro Aun NZ Oo hb gJ iM;clear gJ iM
        (first|rw [<- XH.out] at Oo|(simp only [Int.reduceToNat] at Oo;rw [<- XH.out] at Oo))
        have aJ:=aa.mk (Kd.mU (Kd.rz xk) (Kd.kf Oo) hb);have aQ:=aa.mk (Kd.bP (Kd.ry Oo (Kd.oL (Kd.rz xk))) (af (bz HB)));have bt:=aa.mk (bn (kz bk) hb);have cr:=aa.mk (aq (bz HB) hb);clear xk;clear bk;clear HB;have xk:=aJ;have jA:=aQ;have bk:=bt;have HB:=cr;clear aJ aQ bt cr;clear hb Oo;obtain ⟨AA,zL,Eo⟩:=Kd.da jA.out
        (first|subst Eo|(injection Eo with mY rD mZ;have rE:=mY.symm;have rF:=mZ.symm;clear mY rD mZ;subst rE;subst rF))
        refine hK.out _ _ ⟨cz bk.out 0 rfl,cz bk.out 1 rfl,cz bk.out 2 rfl,cz bk.out 3 rfl,cz bk.out 4 rfl,cz bk.out 5 rfl,cz bk.out 6 rfl,cz bk.out 7 rfl,cz bk.out 8 rfl,cz bk.out 9 rfl⟩ (fun hHeld=> ?_);clear hK K;refine nz 46 ?_;refine oz 8 (some 47) az (fun K hK=> ?_);refine Kd.jB (Kd.int .u8) (w0:=w) w.heap.size (by rfl) (.tmp 39) (.tmp 46) 23 5 (.int .u8 0) 1 rfl Try.underlying23 gB rfl (by decide) (by omega) AnB BG xj _ _ _ (fun k_=>some k_≠(.slice AA xj.length zL:Value).ownBlock) (fun _=>False) rfl rfl ?aO ?aR (fun _ _ h=>h) (fun _ h=>h.elim) ?aF ?aB ?aS ?aL ?_
        (case aR=>repeat (first|exact (Kd.av jA.out).2.2|(with_reducible refine Kd.fD ?_ _)|(with_reducible refine Kd.fj ?_ _)|(with_reducible refine Kd.gP ?_)))
        (case aB=>exact bz HB)
        (case aF=>exact (fun k_ hk=>Kd.mN (Kd.oL (Kd.rz jA)) k_ hk))
        (case aO=>exact (by (with_reducible repeat (first|apply Kd.eX|apply Kd.eT|apply Kd.eY));exact Kd.dm xk.out (fun _ hk=>hk.2)))
        (case aS=>exact (af (bz HB)))
        (case aL=>have:=Agi.out;omega)
        intro Auo w32 ho hb hg hat;rw [<- Agj.out] at ho
        have aJ:=aa.mk (gV (kz bk) hg (Kd.nw xk.out bk.out (by decide)));have aQ:=aa.mk (Kd.nV (ok:=(fun _=>True)) (Kd.rz jA) hg hat);have bt:=aa.mk (hb);have cr:=aa.mk (ho);clear bk;clear jA;clear HB;clear xk;have bk:=aJ;have jA:=aQ;have HB:=bt;have Nc:=cr;clear aJ aQ bt cr;clear ho hb hg hat;obtain ⟨Abn,Abo,Agr⟩:=Kd.da Nc.out
        (first|subst Agr|(injection Agr with mY rD mZ;have rE:=mY.symm;have rF:=mZ.symm;clear mY rD mZ;subst rE;subst rF))
        refine hK.out _ _ ⟨cz bk.out 0 rfl,cz bk.out 1 rfl,cz bk.out 2 rfl,cz bk.out 3 rfl,cz bk.out 4 rfl,cz bk.out 5 rfl,cz bk.out 6 rfl,cz bk.out 7 rfl,cz bk.out 8 rfl,cz bk.out 9 rfl⟩ (fun hHeld=> ?_);clear hK K;refine nz 47 ?_;refine oz 11 (some 50) az (fun K hK=> ?_);refine gG Try.func83 #[.slice Abn Vd.length Abo,.int .u16 dU] ?_
        with_reducible refine (bq.calls (fun k_=>some k_=(.slice Abn Vd.length Abo:Value).ownBlock) (.slice Abn Vd.length Abo) Vd dU Dm w _ ?aG ?aH A15.out).mono ?_
        (case aG=>exact bz HB)
        (case aH=>exact Kd.kR rfl Nc.out)
        rintro e Ak ⟨AnC,rfl,gE,hb,hkp⟩;refine ⟨_,rfl, ?_⟩;have aJ:=aa.mk (jf (kz bk) hkp (fun hs_=>(fun e_=>(Kd.nw Nc.out bk.out (by decide)) e_) hs_));have aQ:=aa.mk (Kd.dm (ok':=fun k_=>some k_≠(AnC:Value).ownBlock) (Kd.xC (jA.out) hkp (fun k_ ql hs_=>(ql.2) hs_)) (fun k_ ql=>fun e_=>Or.elim (gE.1 k_ e_.symm) (fun hs_=>ql.2.1 hs_) (fun Dq=>Nat.not_le.2 ql.2.2 Dq)));have bt:=aa.mk (Kd.dm (ok':=fun k_=>some k_≠(.slice AA xj.length zL:Value).ownBlock) gE (fun k_ ql=>Or.elim ql (fun hs_=>fun e_=>(((jA.out).1 k_ e_.symm).2) hs_) (fun Dq=>(Kd.mN (Kd.oL (Kd.rz jA)) k_ Dq))));have cr:=aa.mk (hb);clear bk;clear jA;clear HB;clear Nc;have bk:=aJ;have jA:=aQ;have Bo:=bt;have HB:=cr;clear aJ aQ bt cr
        (try clear hb)
        (try clear hkp)
        (try clear gE)
        refine hK.out _ _ ⟨cz bk.out 0 rfl,cz bk.out 1 rfl,cz bk.out 2 rfl,cz bk.out 3 rfl,cz bk.out 4 rfl,cz bk.out 5 rfl,cz bk.out 6 rfl,cz bk.out 7 rfl,cz bk.out 8 rfl,cz bk.out 9 rfl⟩ (fun hHeld=> ?_);clear hK K;refine nz 50 ?_;refine pz 12 5 az ?_;refine dz az ?_
        try go_wp2
        have aJ:=aa.mk (Kd.eY jA.out);have aQ:=aa.mk (Kd.eY Bo.out);have bt:=aa.mk (aK bk.out);have cr:=aa.mk (bf HB.out);clear jA;clear Bo;clear bk;clear HB;have jA:=aJ;have Bo:=aQ;have bk:=bt;have HB:=cr;clear aJ aQ bt cr;obtain ⟨Abp,Abq,Ags⟩:=Kd.da Bo.out
        (first|subst Ags|(injection Ags with mY rD mZ;have rE:=mY.symm;have rF:=mZ.symm;clear mY rD mZ;subst rE;subst rF))
        refine dg (n:=8) (S:=fun w'=>w'.cell? ⟨iO,0,none⟩=some (.int .u16 aV) /\ w'.cell? ⟨iO,1,none⟩=some (.int .u16 bh) /\ w'.cell? ⟨iO,2,none⟩=some (.int .u32 bp) /\ w'.cell? ⟨iO,3,none⟩=some (.int .u32 bw) /\ w'.cell? ⟨iO,4,none⟩=some (.int .u8 dQ) /\ w'.cell? ⟨iO,5,none⟩=some (.int .u16 dU) /\ w'.cell? ⟨iO,6,none⟩=some (.int .u16 dZ) /\ w'.cell? ⟨iO,7,none⟩=some (.int .u16 ee) /\ w'.cell? ⟨iO,8,none⟩=some (.slice jw bN.length jx) /\ w'.cell? ⟨iO,9,none⟩=some (.slice jy cJ.length jz)) (ds:=[]) #[false,false,false,false,false,false,false,false] (by kernel_rfl) rfl rfl ⟨cz bk.out 0 rfl,cz bk.out 1 rfl,cz bk.out 2 rfl,cz bk.out 3 rfl,cz bk.out 4 rfl,cz bk.out 5 rfl,cz bk.out 6 rfl,cz bk.out 7 rfl,cz bk.out 8 rfl,cz bk.out 9 rfl⟩ (fun hHeld=> ?_);refine bH aD.Ek aD.yq (fun az dW=> ?_)
        generalize Ak.drew=TZ at jA Bo bk HB hHeld|-
        refine pz 0 51 az ?_;refine pz 1 52 az ?_;refine pz 4 55 az ?_;refine gK (i:=2) (N:=some 53) (v:= ?_) (a':= ?_) #[true,true,true,false,true,false,false,false] rfl rfl (dn az.out dW.out (by kernel_rfl)) (fun _ _ _ h=>h) (Or.inl ⟨by rfl, ?_⟩) hHeld ?_ ?_
        rotate_left
        ·rintro w' ⟨s0,s1,s2,s3,s4,s5,s6,s7,s8,s9⟩
         go_simp
         with_reducible rfl
        rotate_left
        ·simp only [pL]
         rfl
        refine gK (i:=5) (N:=some 56) (v:= ?_) (a':= ?_) #[true,true,true,false,true,true,false,false] rfl rfl (dn az.out dW.out (by kernel_rfl)) (fun _ _ _ h=>h) (Or.inl ⟨by rfl, ?_⟩) hHeld ?_ ?_
        rotate_left
        ·rintro w' ⟨s0,s1,s2,s3,s4,s5,s6,s7,s8,s9⟩
         go_simp
         with_reducible rfl
        rotate_left
        ·simp only [pL]
         rfl
        refine oz 3 (some 54) az (fun K hK=> ?_);refine gG Try.func83 #[.slice Abp Dm.length Abq,.int .u16 dZ] ?_
        with_reducible refine (bq.calls (fun k_=>some k_=(.slice Abp Dm.length Abq:Value).ownBlock) (.slice Abp Dm.length Abq) Dm dZ Dn w _ ?aG ?aH O6.out).mono ?_
        (case aG=>exact bz HB)
        (case aH=>exact Kd.kR rfl Bo.out)
        rintro e w38 ⟨AnD,rfl,gE,hb,hkp⟩;refine ⟨_,rfl, ?_⟩;have aJ:=aa.mk (jf (kz bk) hkp (fun hs_=>(fun e_=>(Kd.nw Bo.out bk.out (by decide)) e_) hs_));have aQ:=aa.mk (Kd.dm (ok':=fun k_=>some k_≠(AnD:Value).ownBlock) (Kd.xC (jA.out) hkp (fun k_ ql hs_=>(ql) hs_)) (fun k_ ql=>fun e_=>Or.elim (gE.1 k_ e_.symm) (fun hs_=>ql.2.1 hs_) (fun Dq=>Nat.not_le.2 ql.2.2 Dq)));have bt:=aa.mk (Kd.dm (ok':=fun k_=>some k_≠(.slice AA xj.length zL:Value).ownBlock) gE (fun k_ ql=>Or.elim ql (fun hs_=>fun e_=>(((jA.out).1 k_ e_.symm)) hs_) (fun Dq=>(Kd.mN (Kd.oL (Kd.rz jA)) k_ Dq))));have cr:=aa.mk (hb);clear bk;clear jA;clear HB;clear Bo;have bk:=aJ;have jA:=aQ;have Nd:=bt;have HB:=cr;clear aJ aQ bt cr
        (try clear hb)
        (try clear hkp)
        (try clear gE)
        obtain ⟨GG,zR,Ln⟩:=Kd.da Nd.out
        (first|subst Ln|(injection Ln with mY rD mZ;have rE:=mY.symm;have rF:=mZ.symm;clear mY rD mZ;subst rE;subst rF))
        refine hK.out _ _ ⟨cz bk.out 0 rfl,cz bk.out 1 rfl,cz bk.out 2 rfl,cz bk.out 3 rfl,cz bk.out 4 rfl,cz bk.out 5 rfl,cz bk.out 6 rfl,cz bk.out 7 rfl,cz bk.out 8 rfl,cz bk.out 9 rfl⟩ (fun hHeld=> ?_);clear hK K;refine nz 54 ?_;refine oz 6 (some 57) az (fun K hK=> ?_);refine gG Try.func83 #[.slice GG Dn.length zR,.int .u16 ee] ?_
        with_reducible refine (bq.calls (fun k_=>some k_=(.slice GG Dn.length zR:Value).ownBlock) (.slice GG Dn.length zR) Dn ee AF w _ ?aG ?aH O7.out).mono ?_
        (case aG=>exact bz HB)
        (case aH=>exact Kd.kR rfl Nd.out)
        rintro e CJ ⟨Agt,rfl,gE,hb,hkp⟩;refine ⟨_,rfl, ?_⟩;have aJ:=aa.mk (jf (kz bk) hkp (fun hs_=>(fun e_=>(Kd.nw Nd.out bk.out (by decide)) e_) hs_));have aQ:=aa.mk (Kd.dm (ok':=fun k_=>some k_≠(Agt:Value).ownBlock) (Kd.xC (jA.out) hkp (fun k_ ql hs_=>(ql) hs_)) (fun k_ ql=>fun e_=>Or.elim (gE.1 k_ e_.symm) (fun hs_=>ql.2.1 hs_) (fun Dq=>Nat.not_le.2 ql.2.2 Dq)));have bt:=aa.mk (Kd.dm (ok':=fun k_=>some k_≠(.slice AA xj.length zL:Value).ownBlock) gE (fun k_ ql=>Or.elim ql (fun hs_=>fun e_=>(((jA.out).1 k_ e_.symm)) hs_) (fun Dq=>(Kd.mN (Kd.oL (Kd.rz jA)) k_ Dq))));have cr:=aa.mk (hb);clear bk;clear jA;clear HB;clear Nd;have bk:=aJ;have jA:=aQ;have Dr:=bt;have HB:=cr;clear aJ aQ bt cr
        (try clear hb)
        (try clear hkp)
        (try clear gE)
        refine hK.out _ _ ⟨cz bk.out 0 rfl,cz bk.out 1 rfl,cz bk.out 2 rfl,cz bk.out 3 rfl,cz bk.out 4 rfl,cz bk.out 5 rfl,cz bk.out 6 rfl,cz bk.out 7 rfl,cz bk.out 8 rfl,cz bk.out 9 rfl⟩ (fun hHeld=> ?_);clear hK K;refine nz 57 ?_;refine pz 7 5 az ?_;refine dz az ?_
        try go_wp2
        have aJ:=aa.mk (Kd.eY jA.out);have aQ:=aa.mk (Kd.eY Dr.out);have bt:=aa.mk (aK bk.out);have cr:=aa.mk (bf HB.out);clear jA;clear Dr;clear bk;clear HB;have jA:=aJ;have Dr:=aQ;have bk:=bt;have HB:=cr;clear aJ aQ bt cr
        refine dg (n:=9) (S:=fun w'=>w'.cell? ⟨iO,0,none⟩=some (.int .u16 aV) /\ w'.cell? ⟨iO,1,none⟩=some (.int .u16 bh) /\ w'.cell? ⟨iO,2,none⟩=some (.int .u32 bp) /\ w'.cell? ⟨iO,3,none⟩=some (.int .u32 bw) /\ w'.cell? ⟨iO,4,none⟩=some (.int .u8 dQ) /\ w'.cell? ⟨iO,5,none⟩=some (.int .u16 dU) /\ w'.cell? ⟨iO,6,none⟩=some (.int .u16 dZ) /\ w'.cell? ⟨iO,7,none⟩=some (.int .u16 ee) /\ w'.cell? ⟨iO,8,none⟩=some (.slice jw bN.length jx) /\ w'.cell? ⟨iO,9,none⟩=some (.slice jy cJ.length jz)) (ds:=[]) #[false,false,false,false,false,false,false,false,false] (by kernel_rfl) rfl rfl ⟨cz bk.out 0 rfl,cz bk.out 1 rfl,cz bk.out 2 rfl,cz bk.out 3 rfl,cz bk.out 4 rfl,cz bk.out 5 rfl,cz bk.out 6 rfl,cz bk.out 7 rfl,cz bk.out 8 rfl,cz bk.out 9 rfl⟩ (fun hHeld=> ?_);refine bH aD.Abi aD.RX (fun az dW=> ?_)
        generalize CJ.drew=w41 at jA Dr bk HB hHeld|-
        refine pz 0 58 az ?_;refine pz 1 59 az ?_;refine pz 4 62 az ?_;refine gK (i:=2) (N:=some 60) (v:= ?_) (a':= ?_) #[true,true,true,false,true,false,false,false,false] rfl rfl (dn az.out dW.out (by kernel_rfl)) (fun _ _ _ h=>h) (Or.inl ⟨by rfl, ?_⟩) hHeld ?_ ?_
        rotate_left
        ·rintro w' ⟨s0,s1,s2,s3,s4,s5,s6,s7,s8,s9⟩
         go_simp
         with_reducible rfl
        rotate_left
        ·simp only [pL]
         rfl
        refine gK (i:=5) (N:=some 63) (v:= ?_) (a':= ?_) #[true,true,true,false,true,true,false,false,false] rfl rfl (dn az.out dW.out (by kernel_rfl)) (fun _ _ _ h=>h) (Or.inl ⟨by rfl, ?_⟩) hHeld ?_ ?_
        rotate_left
        ·rintro w' ⟨s0,s1,s2,s3,s4,s5,s6,s7,s8,s9⟩
         go_simp
         with_reducible rfl
        rotate_left
        ·simp only [pL]
         rfl
        refine oz 3 (some 61) az (fun K hK=> ?_);refine Kd.jB (Kd.int .u8) (w0:=w) w.heap.size (by rfl) (.tmp 58) (.tmp 60) 23 5 (.int .u8 0) 1 rfl Try.underlying23 gB rfl (by decide) (by omega) Agt AF bN _ _ _ (fun k_=>some k_≠(.slice AA xj.length zL:Value).ownBlock) (fun _=>False) rfl rfl ?aO ?aR (fun _ _ h=>h) (fun _ h=>h.elim) ?aF ?aB ?aS ?aL ?_
        (case aR=>exact Kd.aU Bi.out (bz HB))
        (case aB=>exact bz HB)
        (case aF=>exact (fun k_ hk=>Kd.mN (Kd.oL (Kd.rz jA)) k_ hk))
        (case aO=>exact (Kd.rz Dr))
        (case aS=>exact (af (bz HB)))
        (case aL=>have:=Agk.out;omega)
        intro AnE Tc ho hb hg hat;rw [<- Agl.out] at ho
        have aJ:=aa.mk (gV (kz bk) hg (Kd.nw Dr.out bk.out (by decide)));have aQ:=aa.mk (Kd.nV (ok:=(fun _=>True)) (by (with_reducible repeat (first|apply Kd.eX|apply Kd.eT|apply Kd.eY));exact Kd.dm jA.out (fun _ hk=>⟨trivial,hk⟩)) hg hat);have bt:=aa.mk (hb);have cr:=aa.mk (ho);clear bk;clear jA;clear HB;clear Dr;have bk:=aJ;have jA:=aQ;have HB:=bt;have R5:=cr;clear aJ aQ bt cr;clear ho hb hg hat;refine hK.out _ _ ⟨cz bk.out 0 rfl,cz bk.out 1 rfl,cz bk.out 2 rfl,cz bk.out 3 rfl,cz bk.out 4 rfl,cz bk.out 5 rfl,cz bk.out 6 rfl,cz bk.out 7 rfl,cz bk.out 8 rfl,cz bk.out 9 rfl⟩ (fun hHeld=> ?_);clear hK K;refine nz 61 ?_;refine oz 6 (some 64) az (fun K hK=> ?_)
        refine Kd.jB (Kd.int .u8) (w0:=w) w.heap.size (by rfl) (.tmp 61) (.tmp 63) 23 5 (.int .u8 0) 1 rfl Try.underlying23 gB rfl (by decide) (by omega) AnE zT cJ _ _ _ (fun k_=>some k_≠(.slice AA xj.length zL:Value).ownBlock) (fun _=>False) rfl rfl ?aO ?aR (fun _ _ h=>h) (fun _ h=>h.elim) ?aF ?aB ?aS ?aL ?_
        (case aR=>exact Kd.aU Bj.out (bz HB))
        (case aB=>exact bz HB)
        (case aF=>exact (fun k_ hk=>Kd.mN (Kd.oL (Kd.rz jA)) k_ hk))
        (case aO=>exact (Kd.rz R5))
        (case aS=>exact (af (bz HB)))
        (case aL=>have:=Agm.out;omega)
        intro Auq w43 ho hb hg hat;rw [<- Agn.out] at ho
        have aJ:=aa.mk (gV (kz bk) hg (Kd.nw R5.out bk.out (by decide)));have aQ:=aa.mk (Kd.nV (ok:=(fun _=>True)) (Kd.rz jA) hg hat);have bt:=aa.mk (hb);have cr:=aa.mk (ho);clear bk;clear jA;clear HB;clear R5;have bk:=aJ;have jA:=aQ;have HB:=bt;have Agu:=cr;clear aJ aQ bt cr;clear ho hb hg hat;refine hK.out _ _ ⟨cz bk.out 0 rfl,cz bk.out 1 rfl,cz bk.out 2 rfl,cz bk.out 3 rfl,cz bk.out 4 rfl,cz bk.out 5 rfl,cz bk.out 6 rfl,cz bk.out 7 rfl,cz bk.out 8 rfl,cz bk.out 9 rfl⟩ (fun hHeld=> ?_);clear hK K;refine nz 64 ?_;refine pz 7 2 az ?_;refine pz 8 3 az ?_;refine dz az ?_
        try go_wp2
        go_ret2
        exact ⟨_,by first|rfl|(simp [aj,ak]<;>rfl)|(simp [*,aj,ak]<;>rfl),by (with_reducible repeat (first|apply Kd.eX|apply Kd.eT|apply Kd.eY));exact Kd.dm Agu.out (fun _ hk=>trivial),bz HB⟩
       ·rw [ax Aj] at H
        cases H
      ·rw [ax Us] at H
       cases H
     ·rw [ax Cb] at H
      cases H
attribute [local go_sem] dF dG eG eH cQ cR dH dI
def gT.f (k:Nat) (a0:Int) (a1:Int) (cT:Int) (cU:Int) (cY:Int) (ik:Int) (iq:Int) (iu:Int) (jo:Int) (iv:Int) (gz:List Int) (gA:List Int):Option (Int):=(aD.f k cT cU cY ik iq iu 0 iv gz gA).bind fun Ds=>(if Ds.2=0 then ((ez.f k a0 a1 6 (Ds.1.length:Int)).bind fun Lz=>((bZ.f k Lz Ds.1).bind fun LA=>((bO.f k LA).bind fun Sa=>(some (Go.bits .xor .u16 IntKind.u16.max Sa))))) else (some 0))
theorem gT.calls (k:Nat) (a0:Int) (a1:Int) (cT:Int) (cU:Int) (cY:Int) (ik:Int) (iq:Int) (iu:Int) (jo:Int) (iv:Int) (kA:Option Addr) (kB:Nat) (gz:List Int) (kC:Option Addr) (kD:Nat) (gA:List Int) (r:Int) (w:World) (tB:Kd.C (Kd.int .u8) w kA gz.length gz) (tC:gz.length<=kB) (tD:Kd.C (Kd.int .u8) w kC gA.length gA) (tE:gA.length<=kD) (h:gT.f k a0 a1 cT cU cY ik iq iu jo iv gz gA=some r):
  Calls Try.prog 74 #[.int .u32 a0,.int .u32 a1,.agg #[.int .u16 cT,.int .u16 cU,.int .u32 cY,.int .u32 ik,.int .u8 iq,.int .u16 iu,.int .u16 jo,.int .u16 iv,.slice kA gz.length kB,.slice kC gA.length kD]] w fun e w'=>e= .returned (.int .u16 r) /\ Below w.heap.size w w':=by
 have qU:=Try.underlying137;have zj:IntKind.u16.signed=false:=rfl;have uB:=aa.mk tB;have uC:=aa.mk tC;clear tB tC;have uD:=aa.mk tD;have uE:=aa.mk tE;clear tD tE;have HB:=gj w;have H:((aD.f k cT cU cY ik iq iu 0 iv gz gA).bind fun Ds=>(if Ds.2=0 then ((ez.f k a0 a1 6 (Ds.1.length:Int)).bind fun Lz=>((bZ.f k Lz Ds.1).bind fun LA=>((bO.f k LA).bind fun Sa=>(some (Go.bits .xor .u16 IntKind.u16.max Sa))))) else (some 0)))=some r:=h;clear h;replace H:=cZ H;obtain ⟨⟨Oq,LB⟩,qA,H⟩:=H
 (try dsimp -simprocs only at H)
 have A4:=aa.mk qA;clear qA
 by_cases c5:LB=0
 ·rw [au c5] at H
  have mS:(LB==0)=true:=fH c5;have qz:(LB !=0)=false:=kO c5;clear c5;replace H:=cZ H;obtain ⟨Lz,wq,H⟩:=H
  (try dsimp -simprocs only at H)
  have A6:=aa.mk wq;clear wq;replace H:=cZ H;obtain ⟨LA,Bc,H⟩:=H
  (try dsimp -simprocs only at H)
  have A7:=aa.mk Bc;clear Bc;replace H:=cZ H;obtain ⟨Sa,Jv,H⟩:=H
  (try dsimp -simprocs only at H)
  have A8:=aa.mk Jv;clear Jv;obtain rfl:=cS H
  go_enter Try.func74,Try.ntmps74
  go_wp2_with (first|((with_reducible refine aA (N:=5) rfl ?_);refine aC ?hg (N:=5) ?hd (cs:= #[.int .u16 cT,.int .u16 cU,.int .u32 cY,.int .u32 ik,.int .u8 iq,.int .u16 iu,.int .u16 jo,.int .u16 iv,.slice kA gz.length kB,.slice kC gA.length kD]) (t:=137) ?hr ?_;(case hd=>rfl);(case hg=>rfl);(case hr=>first|(go_simp;done)|(go_simp;rfl));intro mA hg w9 bK hb;have aJ:=aa.mk (aq (bz HB) hb);have aQ:=aa.mk (bK);have bt:=aa.mk ((by rw [hg];exact (af (bz HB)):w.heap.size<=mA));have cr:=aa.mk ((by rw [hg];exact (af (bz HB)):w.heap.size<=mA));clear HB;have HB:=aJ;have gZ:=aQ;have Agv:=bt;have Agw:=cr;clear aJ aQ bt cr;clear hb bK hg;have rT:w9.cell? ⟨mA,0,none⟩=some (.int .u16 cT):=cz gZ.out 0 rfl;have rU:w9.cell? ⟨mA,1,none⟩=some (.int .u16 cU):=cz gZ.out 1 rfl;have rV:w9.cell? ⟨mA,2,none⟩=some (.int .u32 cY):=cz gZ.out 2 rfl;have rW:w9.cell? ⟨mA,3,none⟩=some (.int .u32 ik):=cz gZ.out 3 rfl;have xF:w9.cell? ⟨mA,4,none⟩=some (.int .u8 iq):=cz gZ.out 4 rfl;have zz:w9.cell? ⟨mA,5,none⟩=some (.int .u16 iu):=cz gZ.out 5 rfl;have zA:w9.cell? ⟨mA,6,none⟩=some (.int .u16 jo):=cz gZ.out 6 rfl;have zB:w9.cell? ⟨mA,7,none⟩=some (.int .u16 iv):=cz gZ.out 7 rfl;have zC:w9.cell? ⟨mA,8,none⟩=some (.slice kA gz.length kB):=cz gZ.out 8 rfl;have zD:w9.cell? ⟨mA,9,none⟩=some (.slice kC gA.length kD):=cz gZ.out 9 rfl;have rX:=ae gZ.out 0;have rY:=ae gZ.out 1;have rZ:=ae gZ.out 2;have sg:=ae gZ.out 3;have xG:=ae gZ.out 4;have zE:=ae gZ.out 5;have zF:=ae gZ.out 6;have zG:=ae gZ.out 7;have zH:=ae gZ.out 8;have zI:=ae gZ.out 9)|((with_reducible refine ay (f:=75) rfl ?_);refine gL 12 Try.func75 #[.agg #[.int .u16 cT,.int .u16 cU,.int .u32 cY,.int .u32 ik,.int .u8 iq,.int .u16 iu,.int .u16 0,.int .u16 iv,.slice kA gz.length kB,.slice kC gA.length kD]] ?_;(with_reducible refine (aD.calls k cT cU cY ik iq iu 0 iv _ _ gz _ _ gA Oq LB _ ?aG ?aH ?qW ?qX A4.out).mono ?_);(case aG=>exact Kd.aU uB.out (bz HB));(case aH=>exact uC.out);(case qW=>exact Kd.aU uD.out (bz HB));(case qX=>exact uE.out);rintro e qf ⟨AnF,rfl,gE,hb⟩;refine ⟨_,rfl, ?_⟩;have aJ:=aa.mk (Kd.bP gE (af (bz HB)));have aQ:=aa.mk (bn (g:=mA) (o:= .cells #[.int .u16 cT,.int .u16 cU,.int .u32 cY,.int .u32 ik,.int .u8 iq,.int .u16 iu,.int .u16 0,.int .u16 iv,.slice kA gz.length kB,.slice kC gA.length kD] 137 (0,0)) (by (with_reducible repeat (first|refine aN ?_ _|refine aK ?_|refine aM ?_ _));refine bM (cs:= #[.int .u16 cT,.int .u16 cU,.int .u32 cY,.int .u32 ik,.int .u8 iq,.int .u16 iu,.int .u16 jo,.int .u16 iv,.slice kA gz.length kB,.slice kC gA.length kD]) ?_ 6 _ rfl;(with_reducible repeat (first|refine aN ?_ _|refine aK ?_|refine aM ?_ _));exact gZ.out) hb);have bt:=aa.mk (aq (bz HB) hb);clear gZ;clear HB;have Dt:=aJ;have gZ:=aQ;have HB:=bt;clear aJ aQ bt;(try clear hb);(try clear hb2);(try clear hk);(try clear hi);(try clear gE);obtain ⟨Agx,Agy,Abr⟩:=Kd.da Dt.out;subst Abr)|((with_reducible refine ay (f:=82) rfl ?_);refine gL 21 Try.func82 #[.int .u32 a0,.int .u32 a1,.int .u8 6,.int .i64 (Oq.length:Int)] ?_;(with_reducible refine (ez.calls k a0 a1 6 (Oq.length:Int) Lz _ A6.out).mono ?_);rintro e w' ⟨rfl,⟨nd,rfl⟩⟩;refine ⟨_,rfl, ?_⟩)|((with_reducible refine ay (f:=80) rfl ?_);refine gL 23 Try.func80 #[.int .u32 Lz,.slice Agx Oq.length Agy] ?_;(with_reducible refine (bZ.calls k Lz _ _ Oq LA _ ?aG ?aH A7.out).mono ?_);(case aG=>repeat (first|exact (Kd.av Dt.out).2.2|(with_reducible refine Kd.fD ?_ _)|(with_reducible refine Kd.fj ?_ _)|(with_reducible refine Kd.gP ?_)));(case aH=>exact (Kd.av Dt.out).2.1);rintro e sR ⟨rfl,hb⟩;refine ⟨_,rfl, ?_⟩;have aJ:=aa.mk (Kd.fU (Kd.rz Dt) hb);have aQ:=aa.mk (bn (kz gZ) hb);have bt:=aa.mk (aq (bz HB) hb);clear Dt;clear gZ;clear HB;have Dt:=aJ;have gZ:=aQ;have HB:=bt;clear aJ aQ bt;(try clear hb);(try clear hb2);(try clear hk);(try clear hi))|((with_reducible refine ay (f:=79) rfl ?_);refine gL 24 Try.func79 #[.int .u32 LA] ?_;(with_reducible refine (bO.calls k LA Sa _ A8.out).mono ?_);rintro e w' ⟨rfl,⟨nd,rfl⟩⟩;refine ⟨_,rfl, ?_⟩))
  go_ret
  exact ⟨by first|rfl|(simp [aj,ak]<;>rfl)|(simp [*,aj,ak]<;>rfl),bz HB⟩
 ·rw [ax c5] at H
  have mS:(LB==0)=false:=fc c5;have qz:(LB !=0)=true:=lA c5;obtain rfl:=cS H
  go_enter Try.func74,Try.ntmps74
  go_wp2_with (first|((with_reducible refine aA (N:=5) rfl ?_);refine aC ?hg (N:=5) ?hd (cs:= #[.int .u16 cT,.int .u16 cU,.int .u32 cY,.int .u32 ik,.int .u8 iq,.int .u16 iu,.int .u16 jo,.int .u16 iv,.slice kA gz.length kB,.slice kC gA.length kD]) (t:=137) ?hr ?_;(case hd=>rfl);(case hg=>rfl);(case hr=>first|(go_simp;done)|(go_simp;rfl));intro mA hg qN bK hb;have aJ:=aa.mk (aq (bz HB) hb);have aQ:=aa.mk (bK);have bt:=aa.mk ((by rw [hg];exact (af (bz HB)):w.heap.size<=mA));have cr:=aa.mk ((by rw [hg];exact (af (bz HB)):w.heap.size<=mA));clear HB;have HB:=aJ;have gZ:=aQ;have Agv:=bt;have Agw:=cr;clear aJ aQ bt cr;clear hb bK hg;have Vf:qN.cell? ⟨mA,0,none⟩=some (.int .u16 cT):=cz gZ.out 0 rfl;have Vg:qN.cell? ⟨mA,1,none⟩=some (.int .u16 cU):=cz gZ.out 1 rfl;have Vh:qN.cell? ⟨mA,2,none⟩=some (.int .u32 cY):=cz gZ.out 2 rfl;have Vi:qN.cell? ⟨mA,3,none⟩=some (.int .u32 ik):=cz gZ.out 3 rfl;have Vj:qN.cell? ⟨mA,4,none⟩=some (.int .u8 iq):=cz gZ.out 4 rfl;have Vk:qN.cell? ⟨mA,5,none⟩=some (.int .u16 iu):=cz gZ.out 5 rfl;have Vl:qN.cell? ⟨mA,6,none⟩=some (.int .u16 jo):=cz gZ.out 6 rfl;have Vm:qN.cell? ⟨mA,7,none⟩=some (.int .u16 iv):=cz gZ.out 7 rfl;have Vn:qN.cell? ⟨mA,8,none⟩=some (.slice kA gz.length kB):=cz gZ.out 8 rfl;have Vo:qN.cell? ⟨mA,9,none⟩=some (.slice kC gA.length kD):=cz gZ.out 9 rfl;have Vp:=ae gZ.out 0;have Vq:=ae gZ.out 1;have Vr:=ae gZ.out 2;have Vs:=ae gZ.out 3;have Vt:=ae gZ.out 4;have Vu:=ae gZ.out 5;have Vv:=ae gZ.out 6;have Vw:=ae gZ.out 7;have Vx:=ae gZ.out 8;have Vy:=ae gZ.out 9)|((with_reducible refine ay (f:=75) rfl ?_);refine gL 12 Try.func75 #[.agg #[.int .u16 cT,.int .u16 cU,.int .u32 cY,.int .u32 ik,.int .u8 iq,.int .u16 iu,.int .u16 0,.int .u16 iv,.slice kA gz.length kB,.slice kC gA.length kD]] ?_;(with_reducible refine (aD.calls k cT cU cY ik iq iu 0 iv _ _ gz _ _ gA Oq LB _ ?aG ?aH ?qW ?qX A4.out).mono ?_);(case aG=>exact Kd.aU uB.out (bz HB));(case aH=>exact uC.out);(case qW=>exact Kd.aU uD.out (bz HB));(case qX=>exact uE.out);rintro e qM ⟨AnF,rfl,gE,hb⟩;refine ⟨_,rfl, ?_⟩;have aJ:=aa.mk (Kd.bP gE (af (bz HB)));have aQ:=aa.mk (bn (g:=mA) (o:= .cells #[.int .u16 cT,.int .u16 cU,.int .u32 cY,.int .u32 ik,.int .u8 iq,.int .u16 iu,.int .u16 0,.int .u16 iv,.slice kA gz.length kB,.slice kC gA.length kD] 137 (0,0)) (by (with_reducible repeat (first|refine aN ?_ _|refine aK ?_|refine aM ?_ _));refine bM (cs:= #[.int .u16 cT,.int .u16 cU,.int .u32 cY,.int .u32 ik,.int .u8 iq,.int .u16 iu,.int .u16 jo,.int .u16 iv,.slice kA gz.length kB,.slice kC gA.length kD]) ?_ 6 _ rfl;(with_reducible repeat (first|refine aN ?_ _|refine aK ?_|refine aM ?_ _));exact gZ.out) hb);have bt:=aa.mk (aq (bz HB) hb);clear gZ;clear HB;have Dt:=aJ;have gZ:=aQ;have HB:=bt;clear aJ aQ bt;(try clear hb);(try clear hb2);(try clear hk);(try clear hi);(try clear gE)))
  go_ret
  exact ⟨by first|rfl|(simp [aj,ak]<;>rfl)|(simp [*,aj,ak]<;>rfl),bz HB⟩
end Go.Proofs.Ytkmimamminddiaa.PB
