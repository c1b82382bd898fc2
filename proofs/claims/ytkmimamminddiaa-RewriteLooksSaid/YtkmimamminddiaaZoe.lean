/- Texts of this claim, merged: PBx22, PBx25, PBx24, PBx28, PBx37, PBx38, PBx39, RwBody, PBx23. -/
import Derived.Test.YtkmimamminddiaaZob
import Derived.Deep.Cut
import Derived.Deep.CutRange
import Derived.Deep.CutBlock
import Derived.Deep.WholeRow
import Derived.Lib.SlBytesConst
set_option maxHeartbeats 40000000
set_option maxRecDepth 100000
set_option linter.unusedVariables false
set_option linter.unusedSimpArgs false
namespace Go.Proofs.Ytkmimamminddiaa.PB
open Go.RowKit Go.Proofs.YtkmimamminddiaaW.PrintWords Go.Proofs.YtkmimamminddiaaW.PrintLast Go.Proofs.YtkmimamminddiaaW.PrintMore
attribute [local go_sem] dV dW gI gJ dG dH dX dY
def aY.f (l0:List Int) (a1:Int):Option (List Int):=(some (([(a1 / 256) % 256,(a1) % 256]:List Int):List Int)).bind fun IX=>(if l0.length+IX.length<140737488355328 then (some (l0++IX)) else (none))
theorem aY.calls (IY:Nat ->Prop) (BH:Value) (l0:List Int) (a1:Int) (r:List Int) (w0 w:World) (hB:Below w0.heap.size w0 w) (ho0:Kd.R (Kd.int .u8) 5 w w0.heap.size IY BH l0) (h:aY.f l0 a1=some r):
  Calls Try.prog 83 #[BH,.int .u16 a1] w fun e w'=>∃ uP:Value,e= .returned (uP) /\ Kd.R (Kd.int .u8) 5 w' w0.heap.size (fun k_=>(IY k_ \/ w.heap.size<=k_)) uP r /\ Below w0.heap.size w0 w' /\ Kept w w' (fun k_=>IY k_):=by
 have UJ:=Aside0.mk (show Kd.R (Kd.int .u8) 5 w w0.heap.size (fun k_=>(IY k_ \/ w.heap.size<=k_)) BH l0 from Kd.R_mono ho0 (fun k_ hk=>(.inl hk)));have HK:=Aside0.mk (Kept.refl w (fun k_=>IY k_));have HW0:=Aside0.mk hB.size;have HB:=Aside0.mk hB;clear hB;have H:((some (([(a1 / 256) % 256,(a1) % 256]:List Int):List Int)).bind fun IX=>(if l0.length+IX.length<140737488355328 then (some (l0++IX)) else (none)))=some r:=h;clear h;obtain ⟨IX,RZ⟩:∃ y_:List Int,y_=(([(a1 / 256) % 256,(a1) % 256]:List Int)):=⟨_,rfl⟩
 replace H:(if l0.length+IX.length<140737488355328 then (some (l0++IX)) else (none))=some r:=by first|(rw [RZ];with_reducible exact H)|(have oO:=(bG _ _).symm.trans H;rw [RZ];with_reducible exact oO)|(have oO:=(bG _ _).symm.trans H;with_reducible exact oO)|with_reducible exact H|(rw [RZ];exact H)|exact H
 have AfX:=Aside0.mk RZ;clear RZ
 by_cases c3:l0.length+IX.length<140737488355328
 ·rw [ah c3] at H
  have Aje:=Aside0.mk c3;clear c3;obtain ⟨AuK,Si⟩:∃ y_:List Int,y_=(l0++IX):=⟨_,rfl⟩
  replace H:(some AuK)=some r:=by first|(rw [Si];with_reducible exact H)|(have oO:=(bG _ _).symm.trans H;rw [Si];with_reducible exact oO)|(have oO:=(bG _ _).symm.trans H;with_reducible exact oO)|with_reducible exact H|(rw [Si];exact H)|exact H
  have AnV:=Aside0.mk Si;clear Si;obtain rfl:=eF H
  go_enter Try.func83,Try.ntmps83
  go_wp2_with (first|((with_reducible refine gate_dst (N:=11) rfl ?_);refine Kd.wI (Kd.int .u8) _ 5 ?hg (N:=11) ?hd (xs:=([(a1 / 256) % 256,(a1) % 256]:List Int)) (inner:=[.int .u8 ((a1 / 256) % 256),.int .u8 ((a1) % 256)]) (ok:=fun _=>True) (xw:=fun _=>True) ?hr ?hp (fun _ hk=>hk) trivial (Below.refl _ _) (Nat.le_refl _) (by simp) ?_;(case hd=>rfl);(case hg=>rfl);(case hr=>first|(go_simp;done)|(go_simp;simp only [IntKind.wrap_u8,IntKind.wrap_u16,IntKind.wrap_u32];done)|(go_simp;rfl));(case hp=>exact (dn.one (show Kd.M (Kd.int .u8) _ _ _ ((a1 / 256) % 256) [.int .u8 ((a1 / 256) % 256)] from rfl) (dn.one (show Kd.M (Kd.int .u8) _ _ _ ((a1) % 256) [.int .u8 ((a1) % 256)] from rfl) (dn.none _ _))));intro Azz w4 XR hb hg_ kP;clear hg_ kP;(first|rw [<- AfX.out] at XR|(simp only [Int.reduceToNat] at XR;rw [<- AfX.out] at XR));have ay:=Aside0.mk (Kd.rD (Kd.rz UJ) (Kd.nU XR) hb);have aC:=Aside0.mk (Kd.R_lower (Kd.xy (Kd.Fb (M:=fun k_=>(IY k_ \/ w.heap.size<=k_)) XR (by first|exact HK.out.1|exact (show Kept w _ (fun k_=>IY k_) from by repeat (first|(with_reducible first|exact HK.out|apply Kept.alloc|apply Kept.drewN|apply Kept.drew)|exact HK.out)).1) (fun k_ h_=> .inr h_)) (Kd.uB (Kd.rz UJ))) (below_size (bz HB)));have bg:=Aside0.mk (Kept.below (S:=(fun k_=>IY k_)) (by repeat (first|(with_reducible first|exact HK.out|apply Kept.alloc|apply Kept.drewN|apply Kept.drew)|exact HK.out)) hb);have dm:=Aside0.mk (ag (bz HB) hb);clear UJ;clear HK;clear HB;have UJ:=ay;have NJ:=aC;have HK:=bg;have HB:=dm;clear ay aC bg dm;clear hb XR;obtain ⟨Ao7,co7,eo7⟩:=Kd.dN NJ.out;subst eo7)|((with_reducible refine iF (b:= .append) (xs:= #[.tmp 5,.tmp 11]) rfl ?_);at_builtin;refine Kd.jv (Kd.int .u8) (w0:=w0) w0.heap.size rfl (.tmp 5) (.tmp 11) 23 5 (.int .u8 0) 1 rfl Try.underlying23 info5 rfl (by decide) (by omega) BH l0 IX _ _ _ (fun k_=>(IY k_ \/ w.heap.size<=k_) /\ some k_≠(.slice Ao7 IX.length co7:Value).ownBlock) (fun _=>False) rfl rfl ?aO ?aR (fun _ _ h=>h) (fun _ h=>h.elim) ?aF ?aB ?aS ?aL ?_;(case aR=>repeat (first|exact (Kd.R_reads' NJ.out).2.2|(with_reducible refine Kd.iL ?_ _)|(with_reducible refine Kd.iD ?_ _)|(with_reducible refine Kd.jE ?_)));(case aB=>exact bz HB);(case aF=>exact (fun k_ hk=>⟨(.inr (Nat.le_trans (by first|exact HK.out.1|exact (show Kept w _ (fun k_=>IY k_) from by repeat (first|(with_reducible first|exact HK.out|apply Kept.alloc|apply Kept.drewN|apply Kept.drew)|exact HK.out)).1) hk)),Kd.fresh' (Kd.uB (Kd.rz NJ)) k_ hk⟩));(case aO=>exact (Kd.rz UJ));(case aS=>exact (below_size (bz HB)));(case aL=>have:=Aje.out;omega);intro AzA w6 ho hb hg hat;rw [<- AnV.out] at ho;have ay:=Aside0.mk (Kd.tX (ok:=(fun k_=>(IY k_ \/ w.heap.size<=k_))) (by (with_reducible repeat (first|apply Kd.ik|apply Kd.gV|apply Kd.iq));exact Kd.R_mono NJ.out (fun _ hk=>⟨hk.1.1,hk.2⟩)) hg hat);have aC:=Aside0.mk (hb);have bg:=Aside0.mk (Kept.JK (S:=(fun k_=>IY k_)) hg (by repeat (first|(with_reducible first|exact HK.out|apply Kept.alloc|apply Kept.drewN|apply Kept.drew)|exact HK.out)) (fun k_ e_=>(UJ.out.1 k_ e_).1));have dm:=Aside0.mk (ho);clear NJ;clear HB;clear HK;clear UJ;have NJ:=ay;have HB:=aC;have HK:=bg;have AnX:=dm;clear ay aC bg dm;clear ho hb hg hat))
  go_ret
  exact ⟨_,by first|rfl|(simp [ae,af]<;>rfl)|(simp [*,ae,af]<;>rfl),by (with_reducible repeat (first|apply Kd.ik|apply Kd.gV|apply Kd.iq));exact Kd.R_mono AnX.out (fun _ hk=>hk.1),bz HB,by repeat (first|(with_reducible first|exact HK.out|apply Kept.alloc|apply Kept.drewN|apply Kept.drew)|exact HK.out)⟩
 ·rw [aj c3] at H
  cases H
def dZ.f (l0:List Int) (a1:Int):Option (List Int):=(some (([(a1 / 16777216) % 256,(a1 / 65536) % 256,(a1 / 256) % 256,(a1) % 256]:List Int):List Int)).bind fun IZ=>(if l0.length+IZ.length<140737488355328 then (some (l0++IZ)) else (none))
theorem dZ.calls (IY:Nat ->Prop) (BH:Value) (l0:List Int) (a1:Int) (r:List Int) (w0 w:World) (hB:Below w0.heap.size w0 w) (ho0:Kd.R (Kd.int .u8) 5 w w0.heap.size IY BH l0) (h:dZ.f l0 a1=some r):
  Calls Try.prog 84 #[BH,.int .u32 a1] w fun e w'=>∃ uP:Value,e= .returned (uP) /\ Kd.R (Kd.int .u8) 5 w' w0.heap.size (fun k_=>(IY k_ \/ w.heap.size<=k_)) uP r /\ Below w0.heap.size w0 w' /\ Kept w w' (fun k_=>IY k_):=by
 have UJ:=Aside0.mk (show Kd.R (Kd.int .u8) 5 w w0.heap.size (fun k_=>(IY k_ \/ w.heap.size<=k_)) BH l0 from Kd.R_mono ho0 (fun k_ hk=>(.inl hk)));have HK:=Aside0.mk (Kept.refl w (fun k_=>IY k_));have HW0:=Aside0.mk hB.size;have HB:=Aside0.mk hB;clear hB;have H:((some (([(a1 / 16777216) % 256,(a1 / 65536) % 256,(a1 / 256) % 256,(a1) % 256]:List Int):List Int)).bind fun IZ=>(if l0.length+IZ.length<140737488355328 then (some (l0++IZ)) else (none)))=some r:=h;clear h;obtain ⟨IZ,Sj⟩:∃ y_:List Int,y_=(([(a1 / 16777216) % 256,(a1 / 65536) % 256,(a1 / 256) % 256,(a1) % 256]:List Int)):=⟨_,rfl⟩
 replace H:(if l0.length+IZ.length<140737488355328 then (some (l0++IZ)) else (none))=some r:=by first|(rw [Sj];with_reducible exact H)|(have oO:=(bG _ _).symm.trans H;rw [Sj];with_reducible exact oO)|(have oO:=(bG _ _).symm.trans H;with_reducible exact oO)|with_reducible exact H|(rw [Sj];exact H)|exact H
 have AfY:=Aside0.mk Sj;clear Sj
 by_cases c3:l0.length+IZ.length<140737488355328
 ·rw [ah c3] at H
  have Aje:=Aside0.mk c3;clear c3;obtain ⟨AuL,Sl⟩:∃ y_:List Int,y_=(l0++IZ):=⟨_,rfl⟩
  replace H:(some AuL)=some r:=by first|(rw [Sl];with_reducible exact H)|(have oO:=(bG _ _).symm.trans H;rw [Sl];with_reducible exact oO)|(have oO:=(bG _ _).symm.trans H;with_reducible exact oO)|with_reducible exact H|(rw [Sl];exact H)|exact H
  have AnY:=Aside0.mk Sl;clear Sl;obtain rfl:=eF H
  go_enter Try.func84,Try.ntmps84
  go_wp2_with (first|((with_reducible refine gate_dst (N:=17) rfl ?_);refine Kd.wI (Kd.int .u8) _ 5 ?hg (N:=17) ?hd (xs:=([(a1 / 16777216) % 256,(a1 / 65536) % 256,(a1 / 256) % 256,(a1) % 256]:List Int)) (inner:=[.int .u8 ((a1 / 16777216) % 256),.int .u8 ((a1 / 65536) % 256),.int .u8 ((a1 / 256) % 256),.int .u8 ((a1) % 256)]) (ok:=fun _=>True) (xw:=fun _=>True) ?hr ?hp (fun _ hk=>hk) trivial (Below.refl _ _) (Nat.le_refl _) (by simp) ?_;(case hd=>rfl);(case hg=>rfl);(case hr=>first|(go_simp;done)|(go_simp;simp only [IntKind.wrap_u8,IntKind.wrap_u16,IntKind.wrap_u32];done)|(go_simp;rfl));(case hp=>exact (dn.one (show Kd.M (Kd.int .u8) _ _ _ ((a1 / 16777216) % 256) [.int .u8 ((a1 / 16777216) % 256)] from rfl) (dn.one (show Kd.M (Kd.int .u8) _ _ _ ((a1 / 65536) % 256) [.int .u8 ((a1 / 65536) % 256)] from rfl) (dn.one (show Kd.M (Kd.int .u8) _ _ _ ((a1 / 256) % 256) [.int .u8 ((a1 / 256) % 256)] from rfl) (dn.one (show Kd.M (Kd.int .u8) _ _ _ ((a1) % 256) [.int .u8 ((a1) % 256)] from rfl) (dn.none _ _))))));intro AzB w4 XR hb hg_ kP;clear hg_ kP;(first|rw [<- AfY.out] at XR|(simp only [Int.reduceToNat] at XR;rw [<- AfY.out] at XR));have ay:=Aside0.mk (Kd.rD (Kd.rz UJ) (Kd.nU XR) hb);have aC:=Aside0.mk (Kd.R_lower (Kd.xy (Kd.Fb (M:=fun k_=>(IY k_ \/ w.heap.size<=k_)) XR (by first|exact HK.out.1|exact (show Kept w _ (fun k_=>IY k_) from by repeat (first|(with_reducible first|exact HK.out|apply Kept.alloc|apply Kept.drewN|apply Kept.drew)|exact HK.out)).1) (fun k_ h_=> .inr h_)) (Kd.uB (Kd.rz UJ))) (below_size (bz HB)));have bg:=Aside0.mk (Kept.below (S:=(fun k_=>IY k_)) (by repeat (first|(with_reducible first|exact HK.out|apply Kept.alloc|apply Kept.drewN|apply Kept.drew)|exact HK.out)) hb);have dm:=Aside0.mk (ag (bz HB) hb);clear UJ;clear HK;clear HB;have UJ:=ay;have NK:=aC;have HK:=bg;have HB:=dm;clear ay aC bg dm;clear hb XR;obtain ⟨Ao7,co7,eo7⟩:=Kd.dN NK.out;subst eo7)|((with_reducible refine iF (b:= .append) (xs:= #[.tmp 5,.tmp 17]) rfl ?_);at_builtin;refine Kd.jv (Kd.int .u8) (w0:=w0) w0.heap.size rfl (.tmp 5) (.tmp 17) 23 5 (.int .u8 0) 1 rfl Try.underlying23 info5 rfl (by decide) (by omega) BH l0 IZ _ _ _ (fun k_=>(IY k_ \/ w.heap.size<=k_) /\ some k_≠(.slice Ao7 IZ.length co7:Value).ownBlock) (fun _=>False) rfl rfl ?aO ?aR (fun _ _ h=>h) (fun _ h=>h.elim) ?aF ?aB ?aS ?aL ?_;(case aR=>repeat (first|exact (Kd.R_reads' NK.out).2.2|(with_reducible refine Kd.iL ?_ _)|(with_reducible refine Kd.iD ?_ _)|(with_reducible refine Kd.jE ?_)));(case aB=>exact bz HB);(case aF=>exact (fun k_ hk=>⟨(.inr (Nat.le_trans (by first|exact HK.out.1|exact (show Kept w _ (fun k_=>IY k_) from by repeat (first|(with_reducible first|exact HK.out|apply Kept.alloc|apply Kept.drewN|apply Kept.drew)|exact HK.out)).1) hk)),Kd.fresh' (Kd.uB (Kd.rz NK)) k_ hk⟩));(case aO=>exact (Kd.rz UJ));(case aS=>exact (below_size (bz HB)));(case aL=>have:=Aje.out;omega);intro AzC w6 ho hb hg hat;rw [<- AnY.out] at ho;have ay:=Aside0.mk (Kd.tX (ok:=(fun k_=>(IY k_ \/ w.heap.size<=k_))) (by (with_reducible repeat (first|apply Kd.ik|apply Kd.gV|apply Kd.iq));exact Kd.R_mono NK.out (fun _ hk=>⟨hk.1.1,hk.2⟩)) hg hat);have aC:=Aside0.mk (hb);have bg:=Aside0.mk (Kept.JK (S:=(fun k_=>IY k_)) hg (by repeat (first|(with_reducible first|exact HK.out|apply Kept.alloc|apply Kept.drewN|apply Kept.drew)|exact HK.out)) (fun k_ e_=>(UJ.out.1 k_ e_).1));have dm:=Aside0.mk (ho);clear NK;clear HB;clear HK;clear UJ;have NK:=ay;have HB:=aC;have HK:=bg;have AnZ:=dm;clear ay aC bg dm;clear ho hb hg hat))
  go_ret
  exact ⟨_,by first|rfl|(simp [ae,af]<;>rfl)|(simp [*,ae,af]<;>rfl),by (with_reducible repeat (first|apply Kd.ik|apply Kd.gV|apply Kd.iq));exact Kd.R_mono AnZ.out (fun _ hk=>hk.1),bz HB,by repeat (first|(with_reducible first|exact HK.out|apply Kept.alloc|apply Kept.drewN|apply Kept.drew)|exact HK.out)⟩
 ·rw [aj c3] at H
  cases H
def bF.l0:Nat ->Int ->Option (Int)
 |0,_=>none
 |k+1,x0=>if (x0 / 65536)=0 then (some (IntKind.u16.wrap (x0))) else (bF.l0 k (((x0 / 65536)+(Go.bits .and .u32 x0 65535)) % 4294967296))
def bF.f (k:Nat) (a0:Int):Option (Int):=bF.l0 k a0
theorem bF.calls (k:Nat) (a0:Int) (r:Int) (w:World) (h:bF.f k a0=some r):
  Calls Try.prog 79 #[.int .u32 a0] w fun e w'=>e= .returned (.int .u16 r) /\ bf w w':=by
 have H:(bF.l0 k a0)=some r:=h;clear h;have H':=Aside0.mk H;clear H
 go_enter Try.func79,Try.ntmps79
 go_wp2
 go_loopg [0] k (fun kq v0 w'=>∃ (wP:Int),v0= .int .u32 wP /\ Aside0 (bF.l0 kq wP=some r) /\ Aside0 (kq<=k) /\ bf w w')
 case atStart=>exact ⟨(a0),(by first|rfl|(simp;done)|(simp [*];done)),H',⟨Nat.le_refl _⟩,by repeat (first|exact bf.refl _|apply bf.step)⟩
 case round=>
  clear H';obtain ⟨wP,rfl,HA,Ff,⟨m1,rfl⟩⟩:=hrel
  cases gk with
  |zero=>exact absurd HA.out (by simp [bF.l0])
  |succ k1=>
   have H:=HA.out;clear HA;simp only [bF.l0] at H
   by_cases c2:(wP / 65536)=0
   ·rw [ah c2] at H
    have nV:((wP / 65536)==0)=true:=jf c2;have qQ:((wP / 65536) !=0)=false:=oM c2;clear c2;obtain rfl:=eF H
    go_wp2
    go_ret
    exact ⟨by first|rfl|(simp;done)|(simp [*];done),by repeat (first|exact bf.refl _|apply bf.step)⟩
   ·rw [aj c2] at H
    have nV:((wP / 65536)==0)=false:=iM c2;have qQ:((wP / 65536) !=0)=true:=pq c2;have H':=Aside0.mk H;clear H
    go_wp2
    go_roundg k1
    case measure=>have:=Ff.out;omega
    case rel=>exact ⟨(((wP / 65536)+(Go.bits .and .u32 wP 65535)) % 4294967296),(by first|rfl|(simp;done)|(simp [*];done)),H',⟨by have:=Ff.out;omega⟩,by repeat (first|exact bf.refl _|apply bf.step)⟩
def gQ.l0:Nat ->List Int ->List Int ->Int ->Option (List Int)
 |0,_,_,_=>none
 |k+1,x0,x3,x4=>if x4<(x0.length:Int) then (if 0<=x4 then (if (wrap64 (x4+1))<(x0.length:Int) then (if 0<=(wrap64 (x4+1)) then (if x3.length<70368744177664 then (gQ.l0 k x0 (x3++[Go.bits .or .u16 (IntKind.u16.wrap ((IntKind.u16.wrap (rd x0 x4))*256)) (IntKind.u16.wrap (rd x0 (wrap64 (x4+1))))]) (wrap64 (x4+2))) else (none)) else (none)) else (if x3.length<70368744177664 then (gQ.l0 k x0 (x3++[IntKind.u16.wrap ((IntKind.u16.wrap (rd x0 x4))*256)]) (wrap64 (x4+2))) else (none))) else (none)) else (some x3)
def gQ.f (k:Nat) (l0:List Int):Option (List Int):=gQ.l0 k l0 ([]:List Int) 0
theorem gQ.calls (k:Nat) (A0:Option Addr) (c0:Nat) (l0:List Int) (r:List Int) (w:World) (hr0:Kd.C (Kd.int .u8) w A0 l0.length l0) (hc0:l0.length<=c0) (h:gQ.f k l0=some r):
  Calls Try.prog 113 #[.slice A0 l0.length c0] w fun e w'=>∃ uP:Value,e= .returned (uP) /\ Kd.R (Kd.int .u16) 45 w' w.heap.size (fun _=>True) uP r /\ Below w.heap.size w w':=by
 have HR0:=Aside0.mk hr0;have mg:=Aside0.mk hc0;clear hr0 hc0;have HB:=jy w;have H:(gQ.l0 k l0 ([]:List Int) 0)=some r:=h;clear h;have H':=Aside0.mk H;clear H
 go_enter Try.func113,Try.ntmps113
 go_wp2
 go_loopg [3,4] k (fun kq v3 v4 w'=>∃ (sF:List Int) (vY:Int),v4= .int .i64 vY /\ Aside0 (gQ.l0 kq l0 sF vY=some r) /\ Aside0 (kq<=k) /\ Aside0 (Kd.R (Kd.int .u16) 45 w' w.heap.size (fun _=>True) v3 sF) /\ Aside0 (Below w.heap.size w w'))
 case atStart=>exact ⟨(([]:List Int)),(0),(by first|rfl|(simp;done)|(simp [*];done)),H',⟨Nat.le_refl _⟩,⟨by first|exact Kd.bV _ _ _ _ _|exact Kd.lV _ _ _ _ _|exact Kd.lW _ _ _ _ _|exact Kd.lT _ _ _ _ _|exact Kd.lU _ _ _ _ _⟩,⟨bz HB⟩⟩
 case round=>
  clear H';obtain ⟨sF,vY,rfl,HA,Ff,J3,HB⟩:=hrel
  cases gk with
  |zero=>exact absurd HA.out (by simp [gQ.l0])
  |succ k1=>
   have H:=HA.out;clear HA;simp only [gQ.l0] at H
   by_cases c2:vY<(l0.length:Int)
   ·rw [ah c2] at H
    have nV:decide (vY<(l0.length:Int))=true:=bJ c2;clear c2
    by_cases c3:0<=vY
    ·rw [ah c3] at H
     have tY:decide (0<=vY)=true:=bJ c3;clear c3
     by_cases c4:(wrap64 (vY+1))<(l0.length:Int)
     ·rw [ah c4] at H
      have qE:decide ((wrap64 (vY+1))<(l0.length:Int))=true:=bJ c4;clear c4;obtain ⟨CZ,Gf⟩:∃ j_:Int,(wrap64 (vY+1))=j_:=⟨_,rfl⟩
      replace H:(if 0<=(CZ) then (if sF.length<70368744177664 then (gQ.l0 k1 l0 (sF++[Go.bits .or .u16 (IntKind.u16.wrap ((IntKind.u16.wrap (rd l0 vY))*256)) (IntKind.u16.wrap (rd l0 (CZ)))]) (wrap64 (vY+2))) else (none)) else (none))=some r:=by first|(rw [Gf] at H;exact H)|(simp only [Gf] at H|-;exact H)
      (try rw [Gf] at qE)
      have Ae3:(IntKind.i64.wrap (vY+1))=CZ:=(i64_w _).trans Gf
      by_cases c6:0<=(CZ)
      ·rw [ah c6] at H
       have yY:decide (0<=(CZ))=true:=bJ c6;clear c6
       by_cases c7:sF.length<70368744177664
       ·rw [ah c7] at H
        have Ov:=Aside0.mk c7;clear c7;obtain ⟨AuM,AaW⟩:∃ y_:List Int,y_=(sF++[Go.bits .or .u16 (IntKind.u16.wrap ((IntKind.u16.wrap (rd l0 vY))*256)) (IntKind.u16.wrap (rd l0 (CZ)))]):=⟨_,rfl⟩
        rw [<- AaW] at H
        have An0:=Aside0.mk AaW;clear AaW;have H':=Aside0.mk H;clear H;have UK:0<=(vY:Int):=je;have UL:vY<(l0.length:Int):=je;obtain ⟨AfZ,e294,BI⟩:=Kd.dU HR0.out vY UK UL
        cases e294
        replace BI:=(HB.out.cell (dS w _ BI)).trans BI;replace UK:=eq_true UK;replace UL:=eq_true UL;have Ajf:0<=((CZ):Int):=je;have Ajg:(CZ)<(l0.length:Int):=je;obtain ⟨An1,e295,Py⟩:=Kd.dU HR0.out (CZ) Ajf Ajg;obtain rfl:AfZ=An1:=(by injection e295)
        replace Py:=(HB.out.cell (dS w _ Py)).trans Py;replace Ajf:=eq_true Ajf;replace Ajg:=eq_true Ajg
        go_wp2_with (first|((with_reducible refine iF (b:= .append) (xs:= #[.tmp 31,.tmp 33]) rfl ?_);at_builtin;refine Kd.FU (Kd.int .u16) (w0:=w) w.heap.size rfl (.tmp 31) (.tmp 33) 22 45 (.int .u16 0) 2 rfl Try.underlying22 Ou rfl (by decide) (by omega) u3 sF (Go.bits .or .u16 (IntKind.u16.wrap ((IntKind.u16.wrap (rd l0 vY))*256)) (IntKind.u16.wrap (rd l0 (CZ)))) [.int .u16 (Go.bits .or .u16 (IntKind.u16.wrap ((IntKind.u16.wrap (rd l0 vY))*256)) (IntKind.u16.wrap (rd l0 (CZ))))] (fun _=>True) (fun _=>False) rfl rfl ?aP (fun _ hk=>hk.elim) ?aF ?aO ?aB ?aS ?aL ?_;(case aP=>exact rfl);(case aB=>exact bz HB);(case aF=>exact (fun _ _=>trivial));(case aO=>exact (Kd.rz J3));(case aS=>exact (below_size (bz HB)));(case aL=>have:=Ov.out;omega);intro AzD w8 ho hb hg hat;rw [<- An0.out] at ho;have ay:=Aside0.mk (hb);have aC:=Aside0.mk (ho);clear HB;clear J3;have HB:=ay;have An2:=aC;clear ay aC;clear ho hb hg hat))
        go_roundg k1
        case measure=>have:=Ff.out;omega
        case rel=>exact ⟨(AuM),(wrap64 (vY+2)),(by first|rfl|(simp;done)|(simp [*];done)),H',⟨by have:=Ff.out;omega⟩,⟨Kd.rz An2⟩,⟨bz HB⟩⟩
       ·rw [aj c7] at H
        cases H
      ·rw [aj c6] at H
       cases H
     ·rw [aj c4] at H
      have qE:decide ((wrap64 (vY+1))<(l0.length:Int))=false:=jC c4;clear c4
      by_cases c9:sF.length<70368744177664
      ·rw [ah c9] at H
       have Zr:=Aside0.mk c9;clear c9;obtain ⟨AuN,AaX⟩:∃ y_:List Int,y_=(sF++[IntKind.u16.wrap ((IntKind.u16.wrap (rd l0 vY))*256)]):=⟨_,rfl⟩
       rw [<- AaX] at H
       have An3:=Aside0.mk AaX;clear AaX;have H':=Aside0.mk H;clear H;have UK:0<=(vY:Int):=je;have UL:vY<(l0.length:Int):=je;obtain ⟨AfZ,e294,BI⟩:=Kd.dU HR0.out vY UK UL
       cases e294
       replace BI:=(HB.out.cell (dS w _ BI)).trans BI;replace UK:=eq_true UK;replace UL:=eq_true UL
       go_wp2_with (first|((with_reducible refine iF (b:= .append) (xs:= #[.tmp 31,.tmp 33]) rfl ?_);at_builtin;refine Kd.FU (Kd.int .u16) (w0:=w) w.heap.size rfl (.tmp 31) (.tmp 33) 22 45 (.int .u16 0) 2 rfl Try.underlying22 Ou rfl (by decide) (by omega) u3 sF (IntKind.u16.wrap ((IntKind.u16.wrap (rd l0 vY))*256)) [.int .u16 (IntKind.u16.wrap ((IntKind.u16.wrap (rd l0 vY))*256))] (fun _=>True) (fun _=>False) rfl rfl ?aP (fun _ hk=>hk.elim) ?aF ?aO ?aB ?aS ?aL ?_;(case aP=>exact rfl);(case aB=>exact bz HB);(case aF=>exact (fun _ _=>trivial));(case aO=>exact (Kd.rz J3));(case aS=>exact (below_size (bz HB)));(case aL=>have:=Zr.out;omega);intro AzE w10 ho hb hg hat;rw [<- An3.out] at ho;have ay:=Aside0.mk (hb);have aC:=Aside0.mk (ho);clear HB;clear J3;have HB:=ay;have An4:=aC;clear ay aC;clear ho hb hg hat))
       go_roundg k1
       case measure=>have:=Ff.out;omega
       case rel=>exact ⟨(AuN),(wrap64 (vY+2)),(by first|rfl|(simp;done)|(simp [*];done)),H',⟨by have:=Ff.out;omega⟩,⟨Kd.rz An4⟩,⟨bz HB⟩⟩
      ·rw [aj c9] at H
       cases H
    ·rw [aj c3] at H
     cases H
   ·rw [aj c2] at H
    have nV:decide (vY<(l0.length:Int))=false:=jC c2;clear c2;obtain rfl:=eF H
    go_wp2
    go_ret
    exact ⟨_,by first|rfl|(simp [ae,af]<;>rfl)|(simp [*,ae,af]<;>rfl),by (with_reducible repeat (first|apply Kd.ik|apply Kd.gV|apply Kd.iq));exact J3.out,bz HB⟩
def bM.l0:Nat ->Int ->List Int ->Int ->Option (Int)
 |0,_,_,_=>none
 |k+1,x5,x6,x7=>if x7<(x6.length:Int) then (if 0<=x7 then (if (IntKind.u64.wrap (x5+(IntKind.u64.wrap (rd x6 x7))))>4294967295 then (bM.l0 k (IntKind.u64.wrap ((IntKind.u64.wrap ((IntKind.u64.wrap (x5+(IntKind.u64.wrap (rd x6 x7)))) - 4294967296))+1)) x6 (wrap64 (x7+1))) else (bM.l0 k (IntKind.u64.wrap (x5+(IntKind.u64.wrap (rd x6 x7)))) x6 (wrap64 (x7+1)))) else (none)) else (some ((x5) % 4294967296))
def bM.f (k:Nat) (a0:Int) (l1:List Int):Option (Int):=(gQ.f k l1).bind fun Dy=>(bM.l0 k (IntKind.u64.wrap (a0)) Dy 0)
theorem bM.calls (k:Nat) (a0:Int) (A1:Option Addr) (c1:Nat) (l1:List Int) (r:Int) (w:World) (hr1:Kd.C (Kd.int .u8) w A1 l1.length l1) (hc1:l1.length<=c1) (h:bM.f k a0 l1=some r):
  Calls Try.prog 80 #[.int .u32 a0,.slice A1 l1.length c1] w fun e w'=>e= .returned (.int .u32 r) /\ Below w.heap.size w w':=by
 have HR1:=Aside0.mk hr1;have VJ:=Aside0.mk hc1;clear hr1 hc1;have HB:=jy w;have H:((gQ.f k l1).bind fun Dy=>(bM.l0 k (IntKind.u64.wrap (a0)) Dy 0))=some r:=h;clear h;replace H:=dM H;obtain ⟨Dy,CB,H⟩:=H
 (try dsimp -simprocs only at H)
 have A3:=Aside0.mk CB;clear CB;have H':=Aside0.mk H;clear H
 go_enter Try.func80,Try.ntmps80
 go_wp2_with (first|((with_reducible refine ai (f:=113) rfl ?_);refine gL 11 Try.func113 #[.slice A1 l1.length c1] ?_;(with_reducible refine (gQ.calls k _ _ l1 Dy _ ?au ?ax A3.out).mono ?_);(case au=>repeat (first|exact HR1.out|(with_reducible refine Kd.iL ?_ _)|(with_reducible refine Kd.iD ?_ _)|(with_reducible refine Kd.jE ?_)));(case ax=>exact VJ.out);rintro e w4 ⟨AuO,rfl,ho0,hb⟩;refine ⟨_,rfl, ?_⟩;have ay:=Aside0.mk (Kd.R_lower ho0 (below_size (bz HB)));have aC:=Aside0.mk (ag (bz HB) hb);clear HB;have An5:=ay;have HB:=aC;clear ay aC;(try clear hb);(try clear hb2);(try clear hk);(try clear hi);(try clear ho0)))
 go_loopg [5,7] k (fun kq v5 v7 w'=>∃ (qj:Int) (xg:Int),v5= .int .u64 qj /\ v7= .int .i64 xg /\ Aside0 (bM.l0 kq qj Dy xg=some r) /\ Aside0 (kq<=k) /\ Aside0 (Kd.R (Kd.int .u16) 45 w' w.heap.size (fun _=>True) AuO Dy) /\ Aside0 (Below w.heap.size w w'))
 case atStart=>exact ⟨(IntKind.u64.wrap (a0)),(0),(by first|rfl|(simp;done)|(simp [*];done)),(by first|rfl|(simp;done)|(simp [*];done)),H',⟨Nat.le_refl _⟩,⟨Kd.rz An5⟩,⟨bz HB⟩⟩
 case round=>
  clear H'
  try clear c1
  obtain ⟨qj,xg,rfl,rfl,HA,Ff,KD,HB⟩:=hrel
  cases gk with
  |zero=>exact absurd HA.out (by simp [bM.l0])
  |succ k1=>
   have H:=HA.out;clear HA;simp only [bM.l0] at H
   by_cases c5:xg<(Dy.length:Int)
   ·rw [ah c5] at H
    have qR:decide (xg<(Dy.length:Int))=true:=bJ c5;clear c5
    by_cases c6:0<=xg
    ·rw [ah c6] at H
     have yY:decide (0<=xg)=true:=bJ c6;clear c6
     by_cases c7:(IntKind.u64.wrap (qj+(IntKind.u64.wrap (rd Dy xg))))>4294967295
     ·rw [ah c7] at H
      have Fe:decide (4294967295<(IntKind.u64.wrap (qj+(IntKind.u64.wrap (rd Dy xg)))))=true:=bJ c7;clear c7;have H':=Aside0.mk H;clear H;obtain ⟨Ao8,co8,eo8⟩:=Kd.dN KD.out;subst eo8;have UM:0<=(xg:Int):=je;have UN:xg<(Dy.length:Int):=je;obtain ⟨An6,e305,Adv⟩:=Kd.dU (Kd.R_reads' KD.out).2.2 xg UM UN
      cases e305
      replace UM:=eq_true UM;replace UN:=eq_true UN
      go_wp2
      go_roundg k1
      case measure=>have:=Ff.out;omega
      case rel=>exact ⟨(IntKind.u64.wrap ((IntKind.u64.wrap ((IntKind.u64.wrap (qj+(IntKind.u64.wrap (rd Dy xg)))) - 4294967296))+1)),(wrap64 (xg+1)),(by first|rfl|(simp;done)|(simp [*];done)),(by first|rfl|(simp;done)|(simp [*];done)),H',⟨by have:=Ff.out;omega⟩,⟨Kd.rz KD⟩,⟨bz HB⟩⟩
     ·rw [aj c7] at H
      have Fe:decide (4294967295<(IntKind.u64.wrap (qj+(IntKind.u64.wrap (rd Dy xg)))))=false:=jC c7;clear c7;have H':=Aside0.mk H;clear H;obtain ⟨Ao9,co9,eo9⟩:=Kd.dN KD.out;subst eo9;have UM:0<=(xg:Int):=je;have UN:xg<(Dy.length:Int):=je;obtain ⟨An6,e305,Adv⟩:=Kd.dU (Kd.R_reads' KD.out).2.2 xg UM UN
      cases e305
      replace UM:=eq_true UM;replace UN:=eq_true UN
      go_wp2
      go_roundg k1
      case measure=>have:=Ff.out;omega
      case rel=>exact ⟨(IntKind.u64.wrap (qj+(IntKind.u64.wrap (rd Dy xg)))),(wrap64 (xg+1)),(by first|rfl|(simp;done)|(simp [*];done)),(by first|rfl|(simp;done)|(simp [*];done)),H',⟨by have:=Ff.out;omega⟩,⟨Kd.rz KD⟩,⟨bz HB⟩⟩
    ·rw [aj c6] at H
     cases H
   ·rw [aj c5] at H
    have qR:decide (xg<(Dy.length:Int))=false:=jC c5;clear c5;obtain rfl:=eF H;obtain ⟨AzH,AzI,AuQ⟩:=Kd.dN KD.out;subst AuQ
    go_wp2
    go_ret
    exact ⟨by first|rfl|(simp [ae,af]<;>rfl)|(simp [*,ae,af]<;>rfl),bz HB⟩
def kN.f (k:Nat) (l0:List Int):Option (Int):=(bM.f k 0 l0).bind fun UO=>((bF.f k UO).bind fun AaY=>(some (Go.bits .xor .u16 IntKind.u16.max AaY)))
theorem kN.calls (k:Nat) (A0:Option Addr) (c0:Nat) (l0:List Int) (r:Int) (w:World) (hr0:Kd.C (Kd.int .u8) w A0 l0.length l0) (hc0:l0.length<=c0) (h:kN.f k l0=some r):
  Calls Try.prog 85 #[.slice A0 l0.length c0] w fun e w'=>e= .returned (.int .u16 r) /\ Below w.heap.size w w':=by
 have OA:IntKind.u16.signed=false:=rfl;have HR0:=Aside0.mk hr0;have mg:=Aside0.mk hc0;clear hr0 hc0;have HB:=jy w;have H:((bM.f k 0 l0).bind fun UO=>((bF.f k UO).bind fun AaY=>(some (Go.bits .xor .u16 IntKind.u16.max AaY))))=some r:=h;clear h;replace H:=dM H;obtain ⟨UO,Aw,H⟩:=H
 (try dsimp -simprocs only at H)
 have A2:=Aside0.mk Aw;clear Aw;replace H:=dM H;obtain ⟨AaY,CB,H⟩:=H
 (try dsimp -simprocs only at H)
 have A3:=Aside0.mk CB;clear CB;obtain rfl:=eF H
 go_enter Try.func85,Try.ntmps85
 go_wp2_with (first|((with_reducible refine ai (f:=80) rfl ?_);refine gL 4 Try.func80 #[.int .u32 0,.slice A0 l0.length c0] ?_;(with_reducible refine (bM.calls k 0 _ _ l0 UO _ ?au ?ax A2.out).mono ?_);(case au=>repeat (first|exact HR0.out|(with_reducible refine Kd.iL ?_ _)|(with_reducible refine Kd.iD ?_ _)|(with_reducible refine Kd.jE ?_)));(case ax=>exact mg.out);rintro e w4 ⟨rfl,hb⟩;refine ⟨_,rfl, ?_⟩;have ay:=Aside0.mk (ag (bz HB) hb);clear HB;have HB:=ay;clear ay;(try clear hb);(try clear hb2);(try clear hk);(try clear hi))|((with_reducible refine ai (f:=79) rfl ?_);refine gL 5 Try.func79 #[.int .u32 UO] ?_;(with_reducible refine (bF.calls k UO AaY _ A3.out).mono ?_);rintro e w' ⟨rfl,⟨nd,rfl⟩⟩;refine ⟨_,rfl, ?_⟩))
 go_ret
 exact ⟨by first|rfl|(simp [ae,af]<;>rfl)|(simp [*,ae,af]<;>rfl),bz HB⟩
attribute [local go_sem] dV dW gI gJ dG dH dX dY
def bU.f (aI:Int) (aV:Int) (aX:Int) (iZ:List Int):Option (List Int×Int):=if (iZ.length:Int)>65527 then (some (([]:List Int),23)) else ((aY.f ([]:List Int) aI).bind fun Pz=>((aY.f Pz aV).bind fun PD=>((aY.f PD (IntKind.u16.wrap (wrap64 (8+(iZ.length:Int))))).bind fun PE=>((aY.f PE aX).bind fun MV=>(if MV.length+iZ.length<140737488355328 then (some ((MV++iZ),0)) else (none))))))
def bU.T4:Bool×List (List Nat×List Nat):=(true,[([],[]),([],[]),([1],[1]),([2],[2]),([3],[3]),([4],[4]),([0,5],[0,5]),([],[]),([7],[7]),([6,8,6],[6,8]),([9,9,0,1,2,3,4,5,6,7,8,9],[0,9])])
def bU.B4:List Nat:=[0,0,2,6,14,30,63,0,128,511,1023]
theorem bU.Ac9:rtab .any (opsOf Try.f48 4)=bU.T4:=by kernel_rfl
theorem bU.V4:waitsOk bU.T4.2 bU.B4=true:=by kernel_rfl
theorem bU.calls (aI:Int) (aV:Int) (aX:Int) (wC:Option Addr) (wE:Nat) (iZ:List Int) (r1:List Int) (r2:Int) (w:World) (C9:Kd.C (Kd.int .u8) w wC iZ.length iZ) (Dc:iZ.length<=wE) (h:bU.f aI aV aX iZ=some (r1,r2)):
  Calls Try.prog 48 #[.agg #[.int .u16 aI,.int .u16 aV,.int .u16 aX,.slice wC iZ.length wE]] w fun e w'=>∃ uP:Value,e= .returned (.tuple #[uP,.int .i64 r2]) /\ Kd.R (Kd.int .u8) 5 w' w.heap.size (fun _=>True) uP r1 /\ Below w.heap.size w w':=by
 have F7:=Try.underlying83;have Nv:=Aside0.mk C9;have VN:=Aside0.mk Dc;clear C9 Dc;have HB:=jy w;have H:(if (iZ.length:Int)>65527 then (some (([]:List Int),23)) else ((aY.f ([]:List Int) aI).bind fun Pz=>((aY.f Pz aV).bind fun PD=>((aY.f PD (IntKind.u16.wrap (wrap64 (8+(iZ.length:Int))))).bind fun PE=>((aY.f PE aX).bind fun MV=>(if MV.length+iZ.length<140737488355328 then (some ((MV++iZ),0)) else (none)))))))=some (r1,r2):=h;clear h
 by_cases c2:(iZ.length:Int)>65527
 ·rw [ah c2] at H
  have nV:decide (65527<(iZ.length:Int))=true:=bJ c2;have qQ:decide (65527<iZ.length)=true:=bJ (by omega);clear c2;simp only [Option.some.injEq,Prod.mk.injEq] at H
  obtain ⟨rfl,rfl⟩:=H
  go_enter Try.func48,Try.ntmps48
  go_wp2_with (first|((with_reducible refine gate_dst (N:=1) rfl ?_);refine box_event ?hg (N:=1) ?hd (cs:= #[.int .u16 aI,.int .u16 aV,.int .u16 aX,.slice wC iZ.length wE]) (t:=83) ?hr ?_;(case hd=>rfl);(case hg=>rfl);(case hr=>first|(go_simp;done)|(go_simp;rfl));intro uG hg w3 hbox hb;have ay:=Aside0.mk (ag (bz HB) hb);have aC:=Aside0.mk (hbox);have bg:=Aside0.mk ((by rw [hg];exact (below_size (bz HB)):w.heap.size<=uG));have dm:=Aside0.mk ((by rw [hg];exact (below_size (bz HB)):w.heap.size<=uG));clear HB;have HB:=ay;have iE:=aC;have An7:=bg;have An8:=dm;clear ay aC bg dm;clear hb hbox hg;have vK:w3.cell? ⟨uG,0,none⟩=some (.int .u16 aI):=cz iE.out 0 rfl;have vM:w3.cell? ⟨uG,1,none⟩=some (.int .u16 aV):=cz iE.out 1 rfl;have vN:w3.cell? ⟨uG,2,none⟩=some (.int .u16 aX):=cz iE.out 2 rfl;have vO:w3.cell? ⟨uG,3,none⟩=some (.slice wC iZ.length wE):=cz iE.out 3 rfl;have vP:=blk_frozen iE.out 0;have vS:=blk_frozen iE.out 1;have vT:=blk_frozen iE.out 2;have vU:=blk_frozen iE.out 3))
  go_ret2
  exact ⟨_,by first|rfl|(simp [ae,af]<;>rfl)|(simp [*,ae,af]<;>rfl),by first|exact Kd.bV _ _ _ _ _|exact Kd.lV _ _ _ _ _|exact Kd.lW _ _ _ _ _|exact Kd.lT _ _ _ _ _|exact Kd.lU _ _ _ _ _,bz HB⟩
 ·rw [aj c2] at H
  have nV:decide (65527<(iZ.length:Int))=false:=jC c2;have qQ:decide (65527<iZ.length)=false:=jC (by omega);clear c2;replace H:=dM H;obtain ⟨Pz,Kq,H⟩:=H
  (try dsimp -simprocs only at H)
  have A5:=Aside0.mk Kq;clear Kq;replace H:=dM H;obtain ⟨PD,Ce,H⟩:=H
  (try dsimp -simprocs only at H)
  have A6:=Aside0.mk Ce;clear Ce;replace H:=dM H;obtain ⟨PE,Iq,H⟩:=H
  (try dsimp -simprocs only at H)
  have A7:=Aside0.mk Iq;clear Iq;replace H:=dM H;obtain ⟨MV,Sm,H⟩:=H
  (try dsimp -simprocs only at H)
  have A8:=Aside0.mk Sm;clear Sm
  by_cases c9:MV.length+iZ.length<140737488355328
  ·rw [ah c9] at H
   have Zr:=Aside0.mk c9;clear c9;obtain ⟨AzJ,AaZ⟩:∃ y_:List Int,y_=(MV++iZ):=⟨_,rfl⟩
   rw [<- AaZ] at H
   have An9:=Aside0.mk AaZ;clear AaZ;simp only [Option.some.injEq,Prod.mk.injEq] at H
   obtain ⟨rfl,rfl⟩:=H
   go_enter Try.func48,Try.ntmps48
   try go_wp2_with (first|((with_reducible refine gate_dst (N:=1) rfl ?_);refine box_event ?hg (N:=1) ?hd (cs:= #[.int .u16 aI,.int .u16 aV,.int .u16 aX,.slice wC iZ.length wE]) (t:=83) ?hr ?_;(case hd=>rfl);(case hg=>rfl);(case hr=>first|(go_simp;done)|(go_simp;rfl));intro uG hg w10 hbox hb;have ay:=Aside0.mk (ag (bz HB) hb);have aC:=Aside0.mk (hbox);have bg:=Aside0.mk ((by rw [hg];exact (below_size (bz HB)):w.heap.size<=uG));have dm:=Aside0.mk ((by rw [hg];exact (below_size (bz HB)):w.heap.size<=uG));clear HB;have HB:=ay;have iE:=aC;have An7:=bg;have An8:=dm;clear ay aC bg dm;clear hb hbox hg;have DW:w10.cell? ⟨uG,0,none⟩=some (.int .u16 aI):=cz iE.out 0 rfl;have DX:w10.cell? ⟨uG,1,none⟩=some (.int .u16 aV):=cz iE.out 1 rfl;have DY:w10.cell? ⟨uG,2,none⟩=some (.int .u16 aX):=cz iE.out 2 rfl;have DZ:w10.cell? ⟨uG,3,none⟩=some (.slice wC iZ.length wE):=cz iE.out 3 rfl;have D9:=blk_frozen iE.out 0;have Ea:=blk_frozen iE.out 1;have Eb:=blk_frozen iE.out 2;have Ec:=blk_frozen iE.out 3))
   have ay:=Aside0.mk (az iE.out);have aC:=Aside0.mk (below_drew1 HB.out);clear iE;clear HB;have iE:=ay;have HB:=aC;clear ay aC;refine start_ (n:=7) (S:=fun w'=>w'.cell? ⟨uG,0,none⟩=some (.int .u16 aI) /\ w'.cell? ⟨uG,1,none⟩=some (.int .u16 aV) /\ w'.cell? ⟨uG,2,none⟩=some (.int .u16 aX) /\ w'.cell? ⟨uG,3,none⟩=some (.slice wC iZ.length wE)) (ds:=[]) #[false,false,false,false,false,false,false] (by kernel_rfl) rfl rfl ⟨cz iE.out 0 rfl,cz iE.out 1 rfl,cz iE.out 2 rfl,cz iE.out 3 rfl⟩ (fun hHeld=> ?_);generalize w10.drew=w12 at iE HB hHeld|-
   refine pure_ (i:=0) (N:=some 9) (v:= ?_) (a':= ?_) #[true,false,false,false,false,false,false] rfl rfl (by kernel_rfl) (fun _ _ _ h=>h) (Or.inl ⟨by rfl, ?_⟩) ?_ ?_
   rotate_left
   ·intro w'
    go_simp
    with_reducible rfl
   rotate_left
   ·simp only [vF]
    rfl
   refine pure_ (i:=3) (N:=some 12) (v:= ?_) (a':= ?_) #[true,false,false,true,false,false,false] rfl rfl (by kernel_rfl) (fun _ _ _ h=>h) (Or.inl ⟨by rfl, ?_⟩) ?_ ?_
   rotate_left
   ·intro w'
    go_simp
    with_reducible rfl
   rotate_left
   ·simp only [vF]
    rfl
   refine take_ (i:=1) (N:=some 10) (v:= ?_) (a':= ?_) #[true,true,false,true,false,false,false] rfl rfl (by kernel_rfl) (fun _ _ _ h=>h) (Or.inl ⟨by rfl, ?_⟩) hHeld ?_ ?_
   rotate_left
   ·rintro w' ⟨s0,s1,s2,s3⟩
    go_simp
    with_reducible rfl
   rotate_left
   ·simp only [vF]
    rfl
   refine take_ (i:=4) (N:=some 13) (v:= ?_) (a':= ?_) #[true,true,false,true,true,false,false] rfl rfl (by kernel_rfl) (fun _ _ _ h=>h) (Or.inl ⟨by rfl, ?_⟩) hHeld ?_ ?_
   rotate_left
   ·rintro w' ⟨s0,s1,s2,s3⟩
    go_simp
    with_reducible rfl
   rotate_left
   ·simp only [vF]
    rfl
   refine one_ (i:=2) (N:=some 11) #[true,true,true,true,true,false,false] rfl rfl (by kernel_rfl) (by decide) (fun K hK=> ?_);refine gG Try.func83 #[.slice none 0 0,.int .u16 aI] ?_;refine (aY.calls (fun k_=>some k_=(.slice none 0 0:Value).ownBlock) (.slice none 0 0) ([]:List Int) aI Pz w _ ?au ?ax A5.out).mono ?_
   (case au=>exact bz HB)
   (case ax=>exact Kd.bV _ _ _ _ _)
   rintro e w13 ⟨AzK,rfl,ho0,hb,hkp⟩;refine ⟨_,rfl, ?_⟩;have ay:=Aside0.mk (lC (kz iE) hkp (fun hs_=>(fun e_=>by simp [Value.ownBlock] at e_) hs_));have aC:=Aside0.mk (Kd.R_mono (ok':=fun k_=>True) ho0 (fun k_ wF=>trivial));have bg:=Aside0.mk (hb);clear iE;clear HB;have iE:=ay;have Wy:=aC;have HB:=bg;clear ay aC bg
   (try clear hb)
   (try clear hkp)
   (try clear ho0)
   obtain ⟨Ajh,Aji,Aoa⟩:=Kd.dN Wy.out
   (first|subst Aoa|(injection Aoa with rF xE rG;have xG:=rF.symm;have xH:=rG.symm;clear rF xE rG;subst xG;subst xH))
   refine hK.out _ _ ⟨cz iE.out 0 rfl,cz iE.out 1 rfl,cz iE.out 2 rfl,cz iE.out 3 rfl⟩ (fun hHeld=> ?_);clear hK K;refine nz 11 ?_;refine one_ (i:=5) (N:=some 14) #[true,true,true,true,true,true,false] rfl rfl (by kernel_rfl) (by decide) (fun K hK=> ?_);refine gG Try.func83 #[.slice Ajh Pz.length Aji,.int .u16 aV] ?_
   with_reducible refine (aY.calls (fun k_=>some k_=(.slice Ajh Pz.length Aji:Value).ownBlock) (.slice Ajh Pz.length Aji) Pz aV PD w _ ?au ?ax A6.out).mono ?_
   (case au=>exact bz HB)
   (case ax=>exact Kd.oP rfl Wy.out)
   rintro e w15 ⟨AzL,rfl,ho0,hb,hkp⟩;refine ⟨_,rfl, ?_⟩;have ay:=Aside0.mk (lC (kz iE) hkp (fun hs_=>(fun e_=>(Kd.rV Wy.out iE.out (by decide)) e_) hs_));have aC:=Aside0.mk (Kd.R_mono (ok':=fun k_=>True) ho0 (fun k_ wF=>trivial));have bg:=Aside0.mk (hb);clear iE;clear HB;clear Wy;have iE:=ay;have IC:=aC;have HB:=bg;clear ay aC bg
   (try clear hb)
   (try clear hkp)
   (try clear ho0)
   refine hK.out _ _ ⟨cz iE.out 0 rfl,cz iE.out 1 rfl,cz iE.out 2 rfl,cz iE.out 3 rfl⟩ (fun hHeld=> ?_);clear hK K;refine nz 14 ?_;refine pure_ (i:=6) (N:=some 4) (v:= ?_) (a':= ?_) #[true,true,true,true,true,true,true] rfl rfl (by kernel_rfl) (fun _ _ _ h=>h) (Or.inl ⟨by rfl, ?_⟩) ?_ ?_
   rotate_left
   ·intro w'
    go_simp
    with_reducible rfl
   rotate_left
   ·simp only [vF]
    rfl
   refine done_ (by kernel_rfl) ?_
   try go_wp2
   have ay:=Aside0.mk (Kd.iq IC.out);have aC:=Aside0.mk (az iE.out);have bg:=Aside0.mk (below_drew1 HB.out);clear IC;clear iE;clear HB;have IC:=ay;have iE:=aC;have HB:=bg;clear ay aC bg;obtain ⟨Ajj,Ajk,Aob⟩:=Kd.dN IC.out
   (first|subst Aob|(injection Aob with rF xE rG;have xG:=rF.symm;have xH:=rG.symm;clear rF xE rG;subst xG;subst xH))
   refine start_ (n:=11) (S:=fun w'=>w'.cell? ⟨uG,0,none⟩=some (.int .u16 aI) /\ w'.cell? ⟨uG,1,none⟩=some (.int .u16 aV) /\ w'.cell? ⟨uG,2,none⟩=some (.int .u16 aX) /\ w'.cell? ⟨uG,3,none⟩=some (.slice wC iZ.length wE)) (ds:=[]) #[false,false,false,false,false,false,false,false,false,false,false] (by kernel_rfl) rfl rfl ⟨cz iE.out 0 rfl,cz iE.out 1 rfl,cz iE.out 2 rfl,cz iE.out 3 rfl⟩ (fun hHeld=> ?_);refine with_tabW bU.Ac9 bU.V4 (fun HT_ HW_=> ?_);generalize w15.drew=w16 at IC iE HB hHeld|-
   refine pz 0 15 HT_ ?_;refine pz 1 16 HT_ ?_;refine pz 7 22 HT_ ?_;refine take_ (i:=2) (N:=some 17) (v:= ?_) (a':= ?_) #[true,true,true,false,false,false,false,true,false,false,false] rfl rfl (take_ofW HT_.out HW_.out (by kernel_rfl)) (fun _ _ _ h=>h) (Or.inl ⟨by rfl, ?_⟩) hHeld ?_ ?_
   rotate_left
   ·rintro w' ⟨s0,s1,s2,s3⟩
    go_simp
    with_reducible rfl
   rotate_left
   ·simp only [vF]
    rfl
   refine pz 3 18 HT_ ?_;refine pz 4 19 HT_ ?_;refine pz 5 20 HT_ ?_;refine take_ (i:=8) (N:=some 23) (v:= ?_) (a':= ?_) #[true,true,true,true,true,true,false,true,true,false,false] rfl rfl (take_ofW HT_.out HW_.out (by kernel_rfl)) (fun _ _ _ h=>h) (Or.inl ⟨by rfl, ?_⟩) hHeld ?_ ?_
   rotate_left
   ·rintro w' ⟨s0,s1,s2,s3⟩
    go_simp
    with_reducible rfl
   rotate_left
   ·simp only [vF]
    rfl
   refine oz 6 (some 21) HT_ (fun K hK=> ?_);refine gG Try.func83 #[.slice Ajj PD.length Ajk,.int .u16 (IntKind.u16.wrap (wrap64 (8+(iZ.length:Int))))] ?_
   with_reducible refine (aY.calls (fun k_=>some k_=(.slice Ajj PD.length Ajk:Value).ownBlock) (.slice Ajj PD.length Ajk) PD (IntKind.u16.wrap (wrap64 (8+(iZ.length:Int)))) PE w _ ?au ?ax A7.out).mono ?_
   (case au=>exact bz HB)
   (case ax=>exact Kd.oP rfl IC.out)
   rintro e w18 ⟨AzM,rfl,ho0,hb,hkp⟩;refine ⟨_,rfl, ?_⟩;have ay:=Aside0.mk (lC (kz iE) hkp (fun hs_=>(fun e_=>(Kd.rV IC.out iE.out (by decide)) e_) hs_));have aC:=Aside0.mk (Kd.R_mono (ok':=fun k_=>True) ho0 (fun k_ wF=>trivial));have bg:=Aside0.mk (hb);clear iE;clear HB;clear IC;have iE:=ay;have WA:=aC;have HB:=bg;clear ay aC bg
   (try clear hb)
   (try clear hkp)
   (try clear ho0)
   obtain ⟨Xr,Xt,Zn⟩:=Kd.dN WA.out
   (first|subst Zn|(injection Zn with rF xE rG;have xG:=rF.symm;have xH:=rG.symm;clear rF xE rG;subst xG;subst xH))
   refine hK.out _ _ ⟨cz iE.out 0 rfl,cz iE.out 1 rfl,cz iE.out 2 rfl,cz iE.out 3 rfl⟩ (fun hHeld=> ?_);clear hK K;refine nz 21 ?_;refine oz 9 (some 24) HT_ (fun K hK=> ?_);refine gG Try.func83 #[.slice Xr PE.length Xt,.int .u16 aX] ?_
   with_reducible refine (aY.calls (fun k_=>some k_=(.slice Xr PE.length Xt:Value).ownBlock) (.slice Xr PE.length Xt) PE aX MV w _ ?au ?ax A8.out).mono ?_
   (case au=>exact bz HB)
   (case ax=>exact Kd.oP rfl WA.out)
   rintro e w20 ⟨AuR,rfl,ho0,hb,hkp⟩;refine ⟨_,rfl, ?_⟩;have ay:=Aside0.mk (lC (kz iE) hkp (fun hs_=>(fun e_=>(Kd.rV WA.out iE.out (by decide)) e_) hs_));have aC:=Aside0.mk (Kd.R_mono (ok':=fun k_=>True) ho0 (fun k_ wF=>trivial));have bg:=Aside0.mk (hb);clear iE;clear HB;clear WA;have iE:=ay;have Aa0:=aC;have HB:=bg;clear ay aC bg
   (try clear hb)
   (try clear hkp)
   (try clear ho0)
   refine hK.out _ _ ⟨cz iE.out 0 rfl,cz iE.out 1 rfl,cz iE.out 2 rfl,cz iE.out 3 rfl⟩ (fun hHeld=> ?_);clear hK K;refine nz 24 ?_;refine pz 10 4 HT_ ?_;refine dz HT_ ?_;have Aoc:=cs4 iE.out;have Aod:=blk_frozen iE.out
   try go_wp2_with (first|((with_reducible refine iF (b:= .append) (xs:= #[.tmp 25,.tmp 27]) rfl ?_);at_builtin;refine Kd.jv (Kd.int .u8) (w0:=w) w.heap.size rfl (.tmp 25) (.tmp 27) 23 5 (.int .u8 0) 1 rfl Try.underlying23 info5 rfl (by decide) (by omega) AuR MV iZ _ _ _ (fun _=>True) (fun _=>False) rfl rfl ?aO ?aR (fun _ _ h=>h) (fun _ h=>h.elim) ?aF ?aB ?aS ?aL ?_;(case aR=>exact Kd.aJ Nv.out (bz HB));(case aB=>exact bz HB);(case aF=>exact (fun _ _=>trivial));(case aO=>exact (Kd.rz Aa0));(case aS=>exact (below_size (bz HB)));(case aL=>have:=Zr.out;omega);intro AzN w22 ho hb hg hat;rw [<- An9.out] at ho;have ay:=Aside0.mk (jK (kz iE) hg (Kd.rV Aa0.out iE.out (by decide)));have aC:=Aside0.mk (hb);have bg:=Aside0.mk (ho);clear iE;clear HB;clear Aa0;have iE:=ay;have HB:=aC;have Aoe:=bg;clear ay aC bg;clear ho hb hg hat))
   go_ret2
   exact ⟨_,by first|rfl|(simp [ae,af]<;>rfl)|(simp [*,ae,af]<;>rfl),by (with_reducible repeat (first|apply Kd.ik|apply Kd.gV|apply Kd.iq));exact Aoe.out,bz HB⟩
  ·rw [aj c9] at H
   cases H
attribute [local go_sem] dV dW gI gJ dG dH dX dY
def dF.f (a0:Int) (a1:Int) (a2:Int) (a3:Int):Option (Int):=some (Go.bits .or .u32 (Go.bits .or .u32 (Go.bits .or .u32 ((((a0) % 4294967296)*16777216) % 4294967296) ((((a1) % 4294967296)*65536) % 4294967296)) ((((a2) % 4294967296)*256) % 4294967296)) ((a3) % 4294967296))
theorem dF.calls (a0:Int) (a1:Int) (a2:Int) (a3:Int) (r:Int) (w:World) (h:dF.f a0 a1 a2 a3=some r):
  Calls Try.prog 44 #[.int .u8 a0,.int .u8 a1,.int .u8 a2,.int .u8 a3] w fun e w'=>e= .returned (.int .u32 r) /\ bf w w':=by
 have H:(some (Go.bits .or .u32 (Go.bits .or .u32 (Go.bits .or .u32 ((((a0) % 4294967296)*16777216) % 4294967296) ((((a1) % 4294967296)*65536) % 4294967296)) ((((a2) % 4294967296)*256) % 4294967296)) ((a3) % 4294967296)))=some r:=h;clear h;obtain rfl:=eF H
 go_enter Try.func44,Try.ntmps44
 go_wp2
 go_ret
 exact ⟨by first|rfl|(simp;done)|(simp [*];done),by repeat (first|exact bf.refl _|apply bf.step)⟩
attribute [local go_sem] dV dW gI gJ dG dH dX dY
def fM.f (k:Nat) (a0:Int) (a1:Int) (a2:Int) (a3:Int):Option (Int):=(bF.f k (((a0 / 65536)+(Go.bits .and .u32 a0 65535)+(a1 / 65536)+(Go.bits .and .u32 a1 65535)+(a2)+(Go.bits .and .u64 (IntKind.u64.wrap (a3)) 65535)) % 4294967296)).bind fun XT=>(some ((XT) % 4294967296))
theorem fM.calls (k:Nat) (a0:Int) (a1:Int) (a2:Int) (a3:Int) (r:Int) (w:World) (h:fM.f k a0 a1 a2 a3=some r):
  Calls Try.prog 82 #[.int .u32 a0,.int .u32 a1,.int .u8 a2,.int .i64 a3] w fun e w'=>e= .returned (.int .u32 r) /\ bf w w':=by
 have H:((bF.f k (((a0 / 65536)+(Go.bits .and .u32 a0 65535)+(a1 / 65536)+(Go.bits .and .u32 a1 65535)+(a2)+(Go.bits .and .u64 (IntKind.u64.wrap (a3)) 65535)) % 4294967296)).bind fun XT=>(some ((XT) % 4294967296)))=some r:=h;clear h;replace H:=dM H;obtain ⟨XT,Kq,H⟩:=H;replace H:(some ((XT) % 4294967296))=some r:=H;have A5:=Aside0.mk Kq;clear Kq;obtain rfl:=eF H
 go_enter Try.func82,Try.ntmps82
 go_wp2_with (first|((with_reducible refine ai (f:=79) rfl ?_);refine gL 30 Try.func79 #[.int .u32 (((a0 / 65536)+(Go.bits .and .u32 a0 65535)+(a1 / 65536)+(Go.bits .and .u32 a1 65535)+(a2)+(Go.bits .and .u64 (IntKind.u64.wrap (a3)) 65535)) % 4294967296)] ?_;(with_reducible refine (bF.calls k (((a0 / 65536)+(Go.bits .and .u32 a0 65535)+(a1 / 65536)+(Go.bits .and .u32 a1 65535)+(a2)+(Go.bits .and .u64 (IntKind.u64.wrap (a3)) 65535)) % 4294967296) XT _ A5.out).mono ?_);rintro e w' ⟨rfl,⟨nd,rfl⟩⟩;refine ⟨_,rfl, ?_⟩))
 go_ret
 exact ⟨by first|rfl|(simp;done)|(simp [*];done),by repeat (first|exact bf.refl _|apply bf.step)⟩
attribute [local go_sem] dV dW gI gJ dG dH dX dY
def pM.f (a0:Int):Option (Int):=if (Int.tmod a0 6)=5 then ((dF.f 10 0 0 9).bind fun Aa1=>(some Aa1)) else ((dF.f 10 0 0 ((1+(Int.tmod a0 3)) % 256)).bind fun Aa2=>(some Aa2))
theorem pM.calls (a0:Int) (r:Int) (w:World) (h:pM.f a0=some r):
  Calls Try.prog 49 #[.int .u8 a0] w fun e w'=>e= .returned (.int .u32 r) /\ bf w w':=by
 have H:(if (Int.tmod a0 6)=5 then ((dF.f 10 0 0 9).bind fun Aa1=>(some Aa1)) else ((dF.f 10 0 0 ((1+(Int.tmod a0 3)) % 256)).bind fun Aa2=>(some Aa2)))=some r:=h;clear h
 by_cases c2:(Int.tmod a0 6)=5
 ·rw [ah c2] at H
  have nV:((Int.tmod a0 6)==5)=true:=jf c2;have qQ:((Int.tmod a0 6) !=5)=false:=oM c2;clear c2;replace H:=dM H;obtain ⟨Aa1,CB,H⟩:=H
  (try dsimp -simprocs only at H)
  have A3:=Aside0.mk CB;clear CB;obtain rfl:=eF H
  go_enter Try.func49,Try.ntmps49
  go_wp2_with (first|((with_reducible refine ai (f:=44) rfl ?_);refine gL 6 Try.func44 #[.int .u8 10,.int .u8 0,.int .u8 0,.int .u8 9] ?_;(with_reducible refine (dF.calls 10 0 0 9 Aa1 _ A3.out).mono ?_);rintro e w' ⟨rfl,⟨nd,rfl⟩⟩;refine ⟨_,rfl, ?_⟩))
  go_ret
  exact ⟨by first|rfl|(simp;done)|(simp [*];done),by repeat (first|exact bf.refl _|apply bf.step)⟩
 ·rw [aj c2] at H
  have nV:((Int.tmod a0 6)==5)=false:=iM c2;have qQ:((Int.tmod a0 6) !=5)=true:=pq c2;replace H:=dM H;obtain ⟨Aa2,yz,H⟩:=H
  (try dsimp -simprocs only at H)
  have A4:=Aside0.mk yz;clear yz;obtain rfl:=eF H
  go_enter Try.func49,Try.ntmps49
  go_wp2_with (first|((with_reducible refine ai (f:=44) rfl ?_);refine gL 10 Try.func44 #[.int .u8 10,.int .u8 0,.int .u8 0,.int .u8 ((1+(Int.tmod a0 3)) % 256)] ?_;(with_reducible refine (dF.calls 10 0 0 ((1+(Int.tmod a0 3)) % 256) Aa2 _ A4.out).mono ?_);rintro e w' ⟨rfl,⟨nd,rfl⟩⟩;refine ⟨_,rfl, ?_⟩))
  go_ret
  exact ⟨by first|rfl|(simp;done)|(simp [*];done),by repeat (first|exact bf.refl _|apply bf.step)⟩
mutual
def bK.j0:Nat ->Int ->Int ->Bool ->Option (Int)
 |0,_,_,_=>none
 |k+1,x1,x6,x7=>if x7=true then ((dF.f 8 8 8 8).bind fun Aa3=>(some Aa3)) else (if x6=2 then ((dF.f 8 8 4 4).bind fun Aa4=>(some Aa4)) else (if x6=3 then ((dF.f 192 168 0 5).bind fun Aa5=>(some Aa5)) else (if x6=4 then ((dF.f 192 168 0 6).bind fun Aa6=>(some Aa6)) else (if x6=5 then (bK.j1 k x1 x6 (x6==5)) else (bK.j1 k x1 x6 (x6==6))))))
def bK.j1:Nat ->Int ->Int ->Bool ->Option (Int)
 |0,_,_,_=>none
 |k+1,x1,x6,x20=>if x20=true then ((dF.f 5 5 x1 1).bind fun Aa7=>(some Aa7)) else (if x6=7 then ((dF.f 5 6 x1 9).bind fun Aa8=>(some Aa8)) else ((dF.f 5 5 (Go.bits .xor .u8 x1 1) 1).bind fun Aa9=>(some Aa9)))
end
def bK.f (k:Nat) (a0:Int) (a1:Int):Option (Int):=if (Int.tmod a0 9)=0 then (bK.j0 k a1 (Int.tmod a0 9) ((Int.tmod a0 9)==0)) else (bK.j0 k a1 (Int.tmod a0 9) ((Int.tmod a0 9)==1))
theorem bK.calls (k:Nat) (a0:Int) (a1:Int) (r:Int) (w:World) (h:bK.f k a0 a1=some r):
  Calls Try.prog 50 #[.int .u8 a0,.int .u8 a1] w fun e w'=>e= .returned (.int .u32 r) /\ bf w w':=by
 have H:(if (Int.tmod a0 9)=0 then (bK.j0 k a1 (Int.tmod a0 9) ((Int.tmod a0 9)==0)) else (bK.j0 k a1 (Int.tmod a0 9) ((Int.tmod a0 9)==1)))=some r:=h;clear h;have HC3:=Aside0.mk H;clear H
 go_enter Try.func50,Try.ntmps50
 go_upto_if 7 with (fail)
 go_cut [7] (fun v7 wc=>∃ (kq:Nat) (EF:Bool),v7= .bool EF /\ Aside0 (bK.j0 kq a1 (Int.tmod a0 9) EF=some r) /\ Aside0 (kq<=k) /\ bf w wc)
 case first=>
  have H:=HC3.out;clear HC3
  by_cases c4:(Int.tmod a0 9)=0
  ·rw [ah c4] at H
   have qE:((Int.tmod a0 9)==0)=true:=jf c4;have Eh:((Int.tmod a0 9) !=0)=false:=oM c4;clear c4
   (first|rw [qE]|(simp only [i64_w,i32_w];rw [qE])|skip)
   have H':=Aside0.mk H;clear H
   go_wp2
   go_meet
   case rel=>exact ⟨_,(((Int.tmod a0 9)==0)),(by first|rfl|(simp;done)|(simp [*];done)),H',⟨by first|omega|exact Nat.le_refl _⟩,by repeat (first|exact bf.refl _|apply bf.step)⟩
  ·rw [aj c4] at H
   have qE:((Int.tmod a0 9)==0)=false:=iM c4;have Eh:((Int.tmod a0 9) !=0)=true:=pq c4
   (first|rw [qE]|(simp only [i64_w,i32_w];rw [qE])|skip)
   have H':=Aside0.mk H;clear H
   go_wp2
   go_meet
   case rel=>exact ⟨_,(((Int.tmod a0 9)==1)),(by first|rfl|(simp;done)|(simp [*];done)),H',⟨by first|omega|exact Nat.le_refl _⟩,by repeat (first|exact bf.refl _|apply bf.step)⟩
 case rest=>
  clear HC3;obtain ⟨kq,EF,rfl,HA,HJ2,⟨mc2,rfl⟩⟩:=hcut
  cases kq with
  |zero=>exact absurd HA.out (by simp [bK.j0])
  |succ kj2=>
   have H:=HA.out;clear HA;simp only [bK.j0] at H
   by_cases c5:EF=true
   ·subst c5
    have H1:((dF.f 8 8 8 8).bind fun Aa3=>(some Aa3))=some r:=by rw [ah rfl] at H;exact H
    clear H;have H:=H1;clear H1;replace H:=dM H;obtain ⟨Aa3,Ce,H⟩:=H
    (try dsimp -simprocs only at H)
    have A6:=Aside0.mk Ce;clear Ce;obtain rfl:=eF H
    go_wp2_with (first|((with_reducible refine ai (f:=44) rfl ?_);refine gL 10 Try.func44 #[.int .u8 8,.int .u8 8,.int .u8 8,.int .u8 8] ?_;(with_reducible refine (dF.calls 8 8 8 8 Aa3 _ A6.out).mono ?_);rintro e w' ⟨rfl,⟨nd,rfl⟩⟩;refine ⟨_,rfl, ?_⟩))
    go_ret
    exact ⟨by first|rfl|(simp;done)|(simp [*];done),by repeat (first|exact bf.refl _|apply bf.step)⟩
   ·replace c5:=FT c5
    subst c5;have H1:(if (Int.tmod a0 9)=2 then ((dF.f 8 8 4 4).bind fun Aa4=>(some Aa4)) else (if (Int.tmod a0 9)=3 then ((dF.f 192 168 0 5).bind fun Aa5=>(some Aa5)) else (if (Int.tmod a0 9)=4 then ((dF.f 192 168 0 6).bind fun Aa6=>(some Aa6)) else (if (Int.tmod a0 9)=5 then (bK.j1 kj2 a1 (Int.tmod a0 9) ((Int.tmod a0 9)==5)) else (bK.j1 kj2 a1 (Int.tmod a0 9) ((Int.tmod a0 9)==6))))))=some r:=by rw [aj (show ¬ (false=true) by decide)] at H;exact H
    clear H;have H:=H1;clear H1
    by_cases c7:(Int.tmod a0 9)=2
    ·rw [ah c7] at H
     have Fe:((Int.tmod a0 9)==2)=true:=jf c7;have AcK:((Int.tmod a0 9) !=2)=false:=oM c7;clear c7;replace H:=dM H;obtain ⟨Aa4,Sm,H⟩:=H
     (try dsimp -simprocs only at H)
     have A8:=Aside0.mk Sm;clear Sm;obtain rfl:=eF H
     go_wp2_with (first|((with_reducible refine ai (f:=44) rfl ?_);refine gL 13 Try.func44 #[.int .u8 8,.int .u8 8,.int .u8 4,.int .u8 4] ?_;(with_reducible refine (dF.calls 8 8 4 4 Aa4 _ A8.out).mono ?_);rintro e w' ⟨rfl,⟨nd,rfl⟩⟩;refine ⟨_,rfl, ?_⟩))
     go_ret
     exact ⟨by first|rfl|(simp;done)|(simp [*];done),by repeat (first|exact bf.refl _|apply bf.step)⟩
    ·rw [aj c7] at H
     have Fe:((Int.tmod a0 9)==2)=false:=iM c7;have AcK:((Int.tmod a0 9) !=2)=true:=pq c7
     by_cases c9:(Int.tmod a0 9)=3
     ·rw [ah c9] at H
      have CW:((Int.tmod a0 9)==3)=true:=jf c9;have Xq:((Int.tmod a0 9) !=3)=false:=oM c9;clear c9;replace H:=dM H;obtain ⟨Aa5,Gg,H⟩:=H
      (try dsimp -simprocs only at H)
      have Ue:=Aside0.mk Gg;clear Gg;obtain rfl:=eF H
      go_wp2_with (first|((with_reducible refine ai (f:=44) rfl ?_);refine gL 16 Try.func44 #[.int .u8 192,.int .u8 168,.int .u8 0,.int .u8 5] ?_;(with_reducible refine (dF.calls 192 168 0 5 Aa5 _ Ue.out).mono ?_);rintro e w' ⟨rfl,⟨nd,rfl⟩⟩;refine ⟨_,rfl, ?_⟩))
      go_ret
      exact ⟨by first|rfl|(simp;done)|(simp [*];done),by repeat (first|exact bf.refl _|apply bf.step)⟩
     ·rw [aj c9] at H
      have CW:((Int.tmod a0 9)==3)=false:=iM c9;have Xq:((Int.tmod a0 9) !=3)=true:=pq c9
      by_cases c11:(Int.tmod a0 9)=4
      ·rw [ah c11] at H
       have Ip:((Int.tmod a0 9)==4)=true:=jf c11;have VG:((Int.tmod a0 9) !=4)=false:=oM c11;clear c11;replace H:=dM H;obtain ⟨Aa6,Gh,H⟩:=H
       (try dsimp -simprocs only at H)
       have A12:=Aside0.mk Gh;clear Gh;obtain rfl:=eF H
       go_wp2_with (first|((with_reducible refine ai (f:=44) rfl ?_);refine gL 19 Try.func44 #[.int .u8 192,.int .u8 168,.int .u8 0,.int .u8 6] ?_;(with_reducible refine (dF.calls 192 168 0 6 Aa6 _ A12.out).mono ?_);rintro e w' ⟨rfl,⟨nd,rfl⟩⟩;refine ⟨_,rfl, ?_⟩))
       go_ret
       exact ⟨by first|rfl|(simp;done)|(simp [*];done),by repeat (first|exact bf.refl _|apply bf.step)⟩
      ·rw [aj c11] at H
       have Ip:((Int.tmod a0 9)==4)=false:=iM c11;have VG:((Int.tmod a0 9) !=4)=true:=pq c11;have Ajl:=Aside0.mk H;clear H
       go_upto_if 20 with (fail)
       go_cut [20] (fun v20 wc=>∃ (kq:Nat) (PG:Bool),v20= .bool PG /\ Aside0 (bK.j1 kq a1 (Int.tmod a0 9) PG=some r) /\ Aside0 (kq<=kj2) /\ bf w wc)
       case first=>
        have H:=Ajl.out;clear Ajl
        by_cases c14:(Int.tmod a0 9)=5
        ·rw [ah c14] at H
         have KL:((Int.tmod a0 9)==5)=true:=jf c14;have Aas:((Int.tmod a0 9) !=5)=false:=oM c14;clear c14
         (first|rw [KL]|(simp only [i64_w,i32_w];rw [KL])|skip)
         have H':=Aside0.mk H;clear H
         go_wp2
         go_meet
         case rel=>exact ⟨_,(((Int.tmod a0 9)==5)),(by first|rfl|(simp;done)|(simp [*];done)),H',⟨by have:=HJ2.out;first|omega|exact Nat.le_refl _⟩,by repeat (first|exact bf.refl _|apply bf.step)⟩
        ·rw [aj c14] at H
         have KL:((Int.tmod a0 9)==5)=false:=iM c14;have Aas:((Int.tmod a0 9) !=5)=true:=pq c14
         (first|rw [KL]|(simp only [i64_w,i32_w];rw [KL])|skip)
         have H':=Aside0.mk H;clear H
         go_wp2
         go_meet
         case rel=>exact ⟨_,(((Int.tmod a0 9)==6)),(by first|rfl|(simp;done)|(simp [*];done)),H',⟨by have:=HJ2.out;first|omega|exact Nat.le_refl _⟩,by repeat (first|exact bf.refl _|apply bf.step)⟩
       case rest=>
        clear Ajl
        try clear c5
        try clear c7
        try clear Fe
        try clear AcK
        try clear c9
        try clear CW
        try clear Xq
        try clear c11
        try clear Ip
        try clear VG
        obtain ⟨kq,PG,rfl,HA,AzO,⟨AzP,rfl⟩⟩:=hcut
        cases kq with
        |zero=>exact absurd HA.out (by simp [bK.j1])
        |succ AzQ=>
         have H:=HA.out;clear HA;simp only [bK.j1] at H
         by_cases c15:PG=true
         ·subst c15
          have H1:((dF.f 5 5 a1 1).bind fun Aa7=>(some Aa7))=some r:=by rw [ah rfl] at H;exact H
          clear H;have H:=H1;clear H1;replace H:=dM H;obtain ⟨Aa7,CU,H⟩:=H
          (try dsimp -simprocs only at H)
          have YC:=Aside0.mk CU;clear CU;obtain rfl:=eF H
          go_wp2_with (first|((with_reducible refine ai (f:=44) rfl ?_);refine gL 24 Try.func44 #[.int .u8 5,.int .u8 5,.int .u8 a1,.int .u8 1] ?_;(with_reducible refine (dF.calls 5 5 a1 1 Aa7 _ YC.out).mono ?_);rintro e w' ⟨rfl,⟨nd,rfl⟩⟩;refine ⟨_,rfl, ?_⟩))
          go_ret
          exact ⟨by first|rfl|(simp;done)|(simp [*];done),by repeat (first|exact bf.refl _|apply bf.step)⟩
         ·replace c15:=FT c15
          subst c15;have H1:(if (Int.tmod a0 9)=7 then ((dF.f 5 6 a1 9).bind fun Aa8=>(some Aa8)) else ((dF.f 5 5 (Go.bits .xor .u8 a1 1) 1).bind fun Aa9=>(some Aa9)))=some r:=by rw [aj (show ¬ (false=true) by decide)] at H;exact H
          clear H;have H:=H1;clear H1
          by_cases c17:(Int.tmod a0 9)=7
          ·rw [ah c17] at H
           have Qw:((Int.tmod a0 9)==7)=true:=jf c17;have Zb:((Int.tmod a0 9) !=7)=false:=oM c17;clear c17;replace H:=dM H;obtain ⟨Aa8,CV,H⟩:=H
           (try dsimp -simprocs only at H)
           have Xo:=Aside0.mk CV;clear CV;obtain rfl:=eF H
           go_wp2_with (first|((with_reducible refine ai (f:=44) rfl ?_);refine gL 28 Try.func44 #[.int .u8 5,.int .u8 6,.int .u8 a1,.int .u8 9] ?_;(with_reducible refine (dF.calls 5 6 a1 9 Aa8 _ Xo.out).mono ?_);rintro e w' ⟨rfl,⟨nd,rfl⟩⟩;refine ⟨_,rfl, ?_⟩))
           go_ret
           exact ⟨by first|rfl|(simp;done)|(simp [*];done),by repeat (first|exact bf.refl _|apply bf.step)⟩
          ·rw [aj c17] at H
           have Qw:((Int.tmod a0 9)==7)=false:=iM c17;have Zb:((Int.tmod a0 9) !=7)=true:=pq c17;replace H:=dM H;obtain ⟨Aa9,J7,H⟩:=H
           (try dsimp -simprocs only at H)
           have A19:=Aside0.mk J7;clear J7;obtain rfl:=eF H
           go_wp2_with (first|((with_reducible refine ai (f:=44) rfl ?_);refine gL 31 Try.func44 #[.int .u8 5,.int .u8 5,.int .u8 (Go.bits .xor .u8 a1 1),.int .u8 1] ?_;(with_reducible refine (dF.calls 5 5 (Go.bits .xor .u8 a1 1) 1 Aa9 _ A19.out).mono ?_);rintro e w' ⟨rfl,⟨nd,rfl⟩⟩;refine ⟨_,rfl, ?_⟩))
           go_ret
           exact ⟨by first|rfl|(simp;done)|(simp [*];done),by repeat (first|exact bf.refl _|apply bf.step)⟩
def qJ.f (a0:Int):Option (Int):=(some (([17,6,1,17]:List Int):List Int)).bind fun KW=>(if 0<=(Int.tmod a0 4) then (if (Int.tmod a0 4)<(KW.length:Int) then (some (rd KW (Int.tmod a0 4))) else (none)) else (none))
theorem qJ.calls (a0:Int) (r:Int) (w:World) (h:qJ.f a0=some r):
  Calls Try.prog 51 #[.int .u8 a0] w fun e w'=>e= .returned (.int .u8 r) /\ Below w.heap.size w w':=by
 have HB:=jy w;have H:((some (([17,6,1,17]:List Int):List Int)).bind fun KW=>(if 0<=(Int.tmod a0 4) then (if (Int.tmod a0 4)<(KW.length:Int) then (some (rd KW (Int.tmod a0 4))) else (none)) else (none)))=some r:=h;clear h;obtain ⟨KW,Aba⟩:∃ y_:List Int,y_=(([17,6,1,17]:List Int)):=⟨_,rfl⟩
 rw [<- Aba] at H
 have Af0:=Aside0.mk Aba;clear Aba;obtain ⟨ji2,Ajm⟩:∃ j_:Int,(Int.tmod a0 4)=j_:=⟨_,rfl⟩
 replace H:(if 0<=(ji2) then (if (ji2)<(KW.length:Int) then (some (rd KW (ji2))) else (none)) else (none))=some r:=by first|(rw [Ajm] at H;exact H)|(simp only [Ajm] at H|-;exact H)
 by_cases c3:0<=(ji2)
 ·rw [ah c3] at H
  have tY:decide (0<=(ji2))=true:=bJ c3;clear c3
  by_cases c4:(ji2)<(KW.length:Int)
  ·rw [ah c4] at H
   have qE:decide ((ji2)<(KW.length:Int))=true:=bJ c4;clear c4;obtain rfl:=eF H
   go_enter Try.func51,Try.ntmps51
   go_wp2_with (first|((with_reducible refine gate_dst (N:=3) rfl ?_);refine Kd.wI (Kd.int .u8) _ 5 ?hg (N:=3) ?hd (xs:=([17,6,1,17]:List Int)) (inner:=[.int .u8 17,.int .u8 6,.int .u8 1,.int .u8 17]) (ok:=fun _=>True) (xw:=fun _=>True) ?hr ?hp (fun _ hk=>hk) trivial (Below.refl _ _) (Nat.le_refl _) (by simp) ?_;(case hd=>rfl);(case hg=>rfl);(case hr=>first|(go_simp;done)|(go_simp;rfl));(case hp=>exact (dn.one (show Kd.M (Kd.int .u8) _ _ _ 17 [.int .u8 17] from rfl) (dn.one (show Kd.M (Kd.int .u8) _ _ _ 6 [.int .u8 6] from rfl) (dn.one (show Kd.M (Kd.int .u8) _ _ _ 1 [.int .u8 1] from rfl) (dn.one (show Kd.M (Kd.int .u8) _ _ _ 17 [.int .u8 17] from rfl) (dn.none _ _))))));intro AzR w5 ho6 hb hg_ kP;clear hg_ kP;(first|rw [<- Af0.out] at ho6|(simp only [Int.reduceToNat] at ho6;rw [<- Af0.out] at ho6));have ay:=Aside0.mk (Kd.R_lower ho6 (below_size (bz HB)));have aC:=Aside0.mk (ag (bz HB) hb);clear HB;have Af1:=ay;have HB:=aC;clear ay aC;clear hb ho6;obtain ⟨Ao7,co7,eo7⟩:=Kd.dN Af1.out;subst eo7;have Ajn:0<=((ji2):Int):=je;have Ajo:(ji2)<(KW.length:Int):=je;obtain ⟨AxD,AuT,Aq0⟩:=Kd.dU (Kd.R_reads' Af1.out).2.2 (ji2) Ajn Ajo;cases AuT;replace Ajn:=eq_true Ajn;replace Ajo:=eq_true Ajo))
   go_ret
   exact ⟨by first|rfl|(simp [ae,af]<;>rfl)|(simp only [<- Ajm];first|rfl|(simp [ae,af]<;>rfl))|(simp [*,ae,af]<;>rfl),bz HB⟩
  ·rw [aj c4] at H
   cases H
 ·rw [aj c3] at H
  cases H
def lu.f (a0:Int):Option (Int):=if (Int.tmod a0 5)=0 then (some (IntKind.u16.wrap (1000+(IntKind.u16.wrap (a0 / 16))))) else (if (Int.tmod a0 5)=1 then (some 53) else (some (IntKind.u16.wrap (1020+(IntKind.u16.wrap (a0 / 8))))))
theorem lu.calls (a0:Int) (r:Int) (w:World) (h:lu.f a0=some r):
  Calls Try.prog 52 #[.int .u8 a0] w fun e w'=>e= .returned (.int .u16 r) /\ bf w w':=by
 have H:(if (Int.tmod a0 5)=0 then (some (IntKind.u16.wrap (1000+(IntKind.u16.wrap (a0 / 16))))) else (if (Int.tmod a0 5)=1 then (some 53) else (some (IntKind.u16.wrap (1020+(IntKind.u16.wrap (a0 / 8)))))))=some r:=h;clear h
 by_cases c2:(Int.tmod a0 5)=0
 ·rw [ah c2] at H
  have nV:((Int.tmod a0 5)==0)=true:=jf c2;have qQ:((Int.tmod a0 5) !=0)=false:=oM c2;clear c2;obtain rfl:=eF H
  go_enter Try.func52,Try.ntmps52
  go_wp2
  go_ret
  exact ⟨by first|rfl|(simp;done)|(simp [*];done),by repeat (first|exact bf.refl _|apply bf.step)⟩
 ·rw [aj c2] at H
  have nV:((Int.tmod a0 5)==0)=false:=iM c2;have qQ:((Int.tmod a0 5) !=0)=true:=pq c2
  by_cases c3:(Int.tmod a0 5)=1
  ·rw [ah c3] at H
   have tY:((Int.tmod a0 5)==1)=true:=jf c3;have vI:((Int.tmod a0 5) !=1)=false:=oM c3;clear c3;obtain rfl:=eF H
   go_enter Try.func52,Try.ntmps52
   go_wp2
   go_ret
   exact ⟨by first|rfl|(simp;done)|(simp [*];done),by repeat (first|exact bf.refl _|apply bf.step)⟩
  ·rw [aj c3] at H
   have tY:((Int.tmod a0 5)==1)=false:=iM c3;have vI:((Int.tmod a0 5) !=1)=true:=pq c3;obtain rfl:=eF H
   go_enter Try.func52,Try.ntmps52
   go_wp2
   go_ret
   exact ⟨by first|rfl|(simp;done)|(simp [*];done),by repeat (first|exact bf.refl _|apply bf.step)⟩
def bI.f (aI:Int) (aV:Int) (aX:Int) (bn:Int) (bY:List Int):Option (List Int×Int):=if (bY.length:Int)>65507 then (some (([]:List Int),23)) else ((aY.f (([aI,aV]:List Int)) aX).bind fun PI=>((dZ.f PI bn).bind fun MW=>(if MW.length+bY.length<140737488355328 then (some ((MW++bY),0)) else (none))))
def bI.T3:Bool×List (List Nat×List Nat):=(true,[([],[]),([0],[0]),([],[]),([2],[2]),([1,3],[1,3]),([],[]),([5],[5]),([4,6],[4,6]),([],[]),([8],[8]),([7,9,7],[7,9]),([],[]),([11],[11]),([10,12,10],[10,12]),([13,13,0,1,2,3,4,5,6,7,8,9,10,11,12,13],[13]),([14,0,1,2,3,4,5,6,7,8,9,10,11,12,13,14],[])])
def bI.B3:List Nat:=[0,1,0,4,15,0,32,127,0,256,1023,0,2048,8191,16383,32767]
theorem bI.TZ:rtab .any (opsOf Try.f55 3)=bI.T3:=by kernel_rfl
theorem bI.JV:waitsOk bI.T3.2 bI.B3=true:=by kernel_rfl
theorem bI.calls (aI:Int) (aV:Int) (aX:Int) (bn:Int) (iO:Option Addr) (iP:Nat) (bY:List Int) (r1:List Int) (r2:Int) (w:World) (nI:Kd.C (Kd.int .u8) w iO bY.length bY) (nJ:bY.length<=iP) (h:bI.f aI aV aX bn bY=some (r1,r2)):
  Calls Try.prog 55 #[.agg #[.int .u8 aI,.int .u8 aV,.int .u16 aX,.int .u32 bn,.slice iO bY.length iP]] w fun e w'=>∃ uP:Value,e= .returned (.tuple #[uP,.int .i64 r2]) /\ Kd.R (Kd.int .u8) 5 w' w.heap.size (fun _=>True) uP r1 /\ Below w.heap.size w w':=by
 have uQ:=Try.underlying101;have uu:=Aside0.mk nI;have uS:=Aside0.mk nJ;clear nI nJ;have HB:=jy w;have H:(if (bY.length:Int)>65507 then (some (([]:List Int),23)) else ((aY.f (([aI,aV]:List Int)) aX).bind fun PI=>((dZ.f PI bn).bind fun MW=>(if MW.length+bY.length<140737488355328 then (some ((MW++bY),0)) else (none)))))=some (r1,r2):=h;clear h
 by_cases c2:(bY.length:Int)>65507
 ·rw [ah c2] at H
  have nV:decide (65507<(bY.length:Int))=true:=bJ c2;have qQ:decide (65507<bY.length)=true:=bJ (by omega);clear c2;simp only [Option.some.injEq,Prod.mk.injEq] at H
  obtain ⟨rfl,rfl⟩:=H
  go_enter Try.func55,Try.ntmps55
  go_wp2_with (first|((with_reducible refine gate_dst (N:=1) rfl ?_);refine box_event ?hg (N:=1) ?hd (cs:= #[.int .u8 aI,.int .u8 aV,.int .u16 aX,.int .u32 bn,.slice iO bY.length iP]) (t:=101) ?hr ?_;(case hd=>rfl);(case hg=>rfl);(case hr=>first|(go_simp;done)|(go_simp;rfl));intro vk hg w3 hbox hb;have ay:=Aside0.mk (ag (bz HB) hb);have aC:=Aside0.mk (hbox);have bg:=Aside0.mk ((by rw [hg];exact (below_size (bz HB)):w.heap.size<=vk));have dm:=Aside0.mk ((by rw [hg];exact (below_size (bz HB)):w.heap.size<=vk));clear HB;have HB:=ay;have iR:=aC;have Aog:=bg;have Aoh:=dm;clear ay aC bg dm;clear hb hbox hg;have vK:w3.cell? ⟨vk,0,none⟩=some (.int .u8 aI):=cz iR.out 0 rfl;have vM:w3.cell? ⟨vk,1,none⟩=some (.int .u8 aV):=cz iR.out 1 rfl;have vN:w3.cell? ⟨vk,2,none⟩=some (.int .u16 aX):=cz iR.out 2 rfl;have vO:w3.cell? ⟨vk,3,none⟩=some (.int .u32 bn):=cz iR.out 3 rfl;have zU:w3.cell? ⟨vk,4,none⟩=some (.slice iO bY.length iP):=cz iR.out 4 rfl;have vP:=blk_frozen iR.out 0;have vS:=blk_frozen iR.out 1;have vT:=blk_frozen iR.out 2;have vU:=blk_frozen iR.out 3;have zV:=blk_frozen iR.out 4))
  go_ret2
  exact ⟨_,by first|rfl|(simp [ae,af]<;>rfl)|(simp [*,ae,af]<;>rfl),by first|exact Kd.bV _ _ _ _ _|exact Kd.lV _ _ _ _ _|exact Kd.lW _ _ _ _ _|exact Kd.lT _ _ _ _ _|exact Kd.lU _ _ _ _ _,bz HB⟩
 ·rw [aj c2] at H
  have nV:decide (65507<(bY.length:Int))=false:=jC c2;have qQ:decide (65507<bY.length)=false:=jC (by omega);clear c2;obtain ⟨Adw,Abb⟩:∃ y_:List Int,y_=(([aI,aV]:List Int)):=⟨_,rfl⟩
  rw [<- Abb] at H
  have Af2:=Aside0.mk Abb;clear Abb;replace H:=dM H;obtain ⟨PI,Kq,H⟩:=H
  (try dsimp -simprocs only at H)
  have A5:=Aside0.mk Kq;clear Kq;replace H:=dM H;obtain ⟨MW,Ce,H⟩:=H
  (try dsimp -simprocs only at H)
  have A6:=Aside0.mk Ce;clear Ce
  by_cases c7:MW.length+bY.length<140737488355328
  ·rw [ah c7] at H
   have Ov:=Aside0.mk c7;clear c7;obtain ⟨AzS,Abc⟩:∃ y_:List Int,y_=(MW++bY):=⟨_,rfl⟩
   rw [<- Abc] at H
   have Aoi:=Aside0.mk Abc;clear Abc;simp only [Option.some.injEq,Prod.mk.injEq] at H
   obtain ⟨rfl,rfl⟩:=H
   go_enter Try.func55,Try.ntmps55
   try go_wp2_with (first|((with_reducible refine gate_dst (N:=1) rfl ?_);refine box_event ?hg (N:=1) ?hd (cs:= #[.int .u8 aI,.int .u8 aV,.int .u16 aX,.int .u32 bn,.slice iO bY.length iP]) (t:=101) ?hr ?_;(case hd=>rfl);(case hg=>rfl);(case hr=>first|(go_simp;done)|(go_simp;rfl));intro vk hg w8 hbox hb;have ay:=Aside0.mk (ag (bz HB) hb);have aC:=Aside0.mk (hbox);have bg:=Aside0.mk ((by rw [hg];exact (below_size (bz HB)):w.heap.size<=vk));have dm:=Aside0.mk ((by rw [hg];exact (below_size (bz HB)):w.heap.size<=vk));clear HB;have HB:=ay;have iR:=aC;have Aog:=bg;have Aoh:=dm;clear ay aC bg dm;clear hb hbox hg;have Kt:w8.cell? ⟨vk,0,none⟩=some (.int .u8 aI):=cz iR.out 0 rfl;have Ku:w8.cell? ⟨vk,1,none⟩=some (.int .u8 aV):=cz iR.out 1 rfl;have Kv:w8.cell? ⟨vk,2,none⟩=some (.int .u16 aX):=cz iR.out 2 rfl;have Kw:w8.cell? ⟨vk,3,none⟩=some (.int .u32 bn):=cz iR.out 3 rfl;have OZ:w8.cell? ⟨vk,4,none⟩=some (.slice iO bY.length iP):=cz iR.out 4 rfl;have Ky:=blk_frozen iR.out 0;have Kz:=blk_frozen iR.out 1;have KA:=blk_frozen iR.out 2;have KC:=blk_frozen iR.out 3;have O0:=blk_frozen iR.out 4))
   have ay:=Aside0.mk (az iR.out);have aC:=Aside0.mk (below_drew1 HB.out);clear iR;clear HB;have iR:=ay;have HB:=aC;clear ay aC;refine start_ (n:=16) (S:=fun w'=>w'.cell? ⟨vk,0,none⟩=some (.int .u8 aI) /\ w'.cell? ⟨vk,1,none⟩=some (.int .u8 aV) /\ w'.cell? ⟨vk,2,none⟩=some (.int .u16 aX) /\ w'.cell? ⟨vk,3,none⟩=some (.int .u32 bn) /\ w'.cell? ⟨vk,4,none⟩=some (.slice iO bY.length iP)) (ds:=[]) #[false,false,false,false,false,false,false,false,false,false,false,false,false,false,false,false] (by kernel_rfl) rfl rfl ⟨cz iR.out 0 rfl,cz iR.out 1 rfl,cz iR.out 2 rfl,cz iR.out 3 rfl,cz iR.out 4 rfl⟩ (fun hHeld=> ?_);refine with_tabW bI.TZ bI.JV (fun HT_ HW_=> ?_);generalize w8.drew=w10 at iR HB hHeld|-
   refine pz 0 8 HT_ ?_;refine pz 2 10 HT_ ?_;refine pz 5 13 HT_ ?_;refine pz 8 16 HT_ ?_;refine pz 11 19 HT_ ?_;refine take_ (i:=1) (N:=some 9) (v:= ?_) (a':= ?_) #[true,true,true,false,false,true,false,false,true,false,false,true,false,false,false,false] rfl rfl (take_ofW HT_.out HW_.out (by kernel_rfl)) (fun _ _ _ h=>h) (Or.inl ⟨by rfl, ?_⟩) hHeld ?_ ?_
   rotate_left
   ·rintro w' ⟨s0,s1,s2,s3,s4⟩
    go_simp
    with_reducible rfl
   rotate_left
   ·simp only [vF]
    rfl
   refine take_ (i:=3) (N:=some 11) (v:= ?_) (a':= ?_) #[true,true,true,true,false,true,false,false,true,false,false,true,false,false,false,false] rfl rfl (take_ofW HT_.out HW_.out (by kernel_rfl)) (fun _ _ _ h=>h) (Or.inl ⟨by rfl, ?_⟩) hHeld ?_ ?_
   rotate_left
   ·rintro w' ⟨s0,s1,s2,s3,s4⟩
    go_simp
    with_reducible rfl
   rotate_left
   ·simp only [vF]
    rfl
   refine take_ (i:=6) (N:=some 14) (v:= ?_) (a':= ?_) #[true,true,true,true,false,true,true,false,true,false,false,true,false,false,false,false] rfl rfl (take_ofW HT_.out HW_.out (by kernel_rfl)) (fun _ _ _ h=>h) (Or.inl ⟨by rfl, ?_⟩) hHeld ?_ ?_
   rotate_left
   ·rintro w' ⟨s0,s1,s2,s3,s4⟩
    go_simp
    with_reducible rfl
   rotate_left
   ·simp only [vF]
    rfl
   refine take_ (i:=9) (N:=some 17) (v:= ?_) (a':= ?_) #[true,true,true,true,false,true,true,false,true,true,false,true,false,false,false,false] rfl rfl (take_ofW HT_.out HW_.out (by kernel_rfl)) (fun _ _ _ h=>h) (Or.inl ⟨by rfl, ?_⟩) hHeld ?_ ?_
   rotate_left
   ·rintro w' ⟨s0,s1,s2,s3,s4⟩
    go_simp
    with_reducible rfl
   rotate_left
   ·simp only [vF]
    rfl
   refine take_ (i:=12) (N:=some 20) (v:= ?_) (a':= ?_) #[true,true,true,true,false,true,true,false,true,true,false,true,true,false,false,false] rfl rfl (take_ofW HT_.out HW_.out (by kernel_rfl)) (fun _ _ _ h=>h) (Or.inl ⟨by rfl, ?_⟩) hHeld ?_ ?_
   rotate_left
   ·rintro w' ⟨s0,s1,s2,s3,s4⟩
    go_simp
    with_reducible rfl
   rotate_left
   ·simp only [vF]
    rfl
   refine oz 4 (some 12) HT_ (fun K hK=> ?_);refine Kd.wM (Kd.int .u8) _ 5 ?hg (N:=12) ?hd (xs:=([aI,aV]:List Int)) (inner:=[.int .u8 aI,.int .u8 aV]) (ok:=fun _=>True) (xw:=fun _=>True) ?hr ?hp (fun _ hk=>hk) trivial (Below.refl _ _) (Nat.le_refl _) (by simp) ?_;(case hd=>rfl);(case hg=>rfl);(case hr=>first|(go_simp;done)|(go_simp;rfl));(case hp=>exact (dn.one (show Kd.M (Kd.int .u8) _ _ _ aI [.int .u8 aI] from rfl) (dn.one (show Kd.M (Kd.int .u8) _ _ _ aV [.int .u8 aV] from rfl) (dn.none _ _))));intro AzT w11 Ht hb hg_ kP;clear hg_ kP
   (first|rw [<- Af2.out] at Ht|(simp only [Int.reduceToNat] at Ht;rw [<- Af2.out] at Ht))
   have ay:=Aside0.mk (Kd.R_lower Ht (below_size (bz HB)));have aC:=Aside0.mk (aZ (kz iR) hb);have bg:=Aside0.mk (ag (bz HB) hb);clear iR;clear HB;have WB:=ay;have iR:=aC;have HB:=bg;clear ay aC bg;clear hb Ht;obtain ⟨Sr,Su,UQ⟩:=Kd.dN WB.out
   (first|subst UQ|(injection UQ with rF xE rG;have xG:=rF.symm;have xH:=rG.symm;clear rF xE rG;subst xG;subst xH))
   refine hK.out _ _ ⟨cz iR.out 0 rfl,cz iR.out 1 rfl,cz iR.out 2 rfl,cz iR.out 3 rfl,cz iR.out 4 rfl⟩ (fun hHeld=> ?_);clear hK K;refine nz 12 ?_;refine oz 7 (some 15) HT_ (fun K hK=> ?_);refine gG Try.func83 #[.slice Sr Adw.length Su,.int .u16 aX] ?_
   with_reducible refine (aY.calls (fun k_=>some k_=(.slice Sr Adw.length Su:Value).ownBlock) (.slice Sr Adw.length Su) Adw aX PI w _ ?au ?ax A5.out).mono ?_
   (case au=>exact bz HB)
   (case ax=>exact Kd.oP rfl WB.out)
   rintro e w14 ⟨AzU,rfl,ho0,hb,hkp⟩;refine ⟨_,rfl, ?_⟩;have ay:=Aside0.mk (lC (kz iR) hkp (fun hs_=>(fun e_=>(Kd.rV WB.out iR.out (by decide)) e_) hs_));have aC:=Aside0.mk (Kd.R_mono (ok':=fun k_=>True) ho0 (fun k_ wF=>trivial));have bg:=Aside0.mk (hb);clear iR;clear HB;clear WB;have iR:=ay;have WC:=aC;have HB:=bg;clear ay aC bg
   (try clear hb)
   (try clear hkp)
   (try clear ho0)
   obtain ⟨Adx,Ady,Adz⟩:=Kd.dN WC.out
   (first|subst Adz|(injection Adz with rF xE rG;have xG:=rF.symm;have xH:=rG.symm;clear rF xE rG;subst xG;subst xH))
   refine hK.out _ _ ⟨cz iR.out 0 rfl,cz iR.out 1 rfl,cz iR.out 2 rfl,cz iR.out 3 rfl,cz iR.out 4 rfl⟩ (fun hHeld=> ?_);clear hK K;refine nz 15 ?_;refine oz 10 (some 18) HT_ (fun K hK=> ?_);refine gG Try.func84 #[.slice Adx PI.length Ady,.int .u32 bn] ?_
   with_reducible refine (dZ.calls (fun k_=>some k_=(.slice Adx PI.length Ady:Value).ownBlock) (.slice Adx PI.length Ady) PI bn MW w _ ?au ?ax A6.out).mono ?_
   (case au=>exact bz HB)
   (case ax=>exact Kd.oP rfl WC.out)
   rintro e w16 ⟨AuU,rfl,ho0,hb,hkp⟩;refine ⟨_,rfl, ?_⟩;have ay:=Aside0.mk (lC (kz iR) hkp (fun hs_=>(fun e_=>(Kd.rV WC.out iR.out (by decide)) e_) hs_));have aC:=Aside0.mk (Kd.R_mono (ok':=fun k_=>True) ho0 (fun k_ wF=>trivial));have bg:=Aside0.mk (hb);clear iR;clear HB;clear WC;have iR:=ay;have Abd:=aC;have HB:=bg;clear ay aC bg
   (try clear hb)
   (try clear hkp)
   (try clear ho0)
   refine hK.out _ _ ⟨cz iR.out 0 rfl,cz iR.out 1 rfl,cz iR.out 2 rfl,cz iR.out 3 rfl,cz iR.out 4 rfl⟩ (fun hHeld=> ?_);clear hK K;refine nz 18 ?_;refine oz 13 (some 21) HT_ (fun K hK=> ?_);refine Kd.mD (Kd.int .u8) (w0:=w) w.heap.size (by rfl) (.tmp 18) (.tmp 20) 23 5 (.int .u8 0) 1 rfl Try.underlying23 info5 rfl (by decide) (by omega) AuU MW bY _ _ _ (fun _=>True) (fun _=>False) rfl rfl ?aO ?aR (fun _ _ h=>h) (fun _ h=>h.elim) ?aF ?aB ?aS ?aL ?_
   (case aR=>exact Kd.aJ uu.out (bz HB))
   (case aB=>exact bz HB)
   (case aF=>exact (fun _ _=>trivial))
   (case aO=>exact (Kd.rz Abd))
   (case aS=>exact (below_size (bz HB)))
   (case aL=>have:=Ov.out;omega)
   intro AzV w17 ho hb hg hat;rw [<- Aoi.out] at ho
   have ay:=Aside0.mk (jK (kz iR) hg (Kd.rV Abd.out iR.out (by decide)));have aC:=Aside0.mk (hb);have bg:=Aside0.mk (ho);clear iR;clear HB;clear Abd;have iR:=ay;have HB:=aC;have Aoj:=bg;clear ay aC bg;clear ho hb hg hat;refine hK.out _ _ ⟨cz iR.out 0 rfl,cz iR.out 1 rfl,cz iR.out 2 rfl,cz iR.out 3 rfl,cz iR.out 4 rfl⟩ (fun hHeld=> ?_);clear hK K;refine nz 21 ?_;refine pz 14 2 HT_ ?_;refine pz 15 3 HT_ ?_;refine dz HT_ ?_
   try go_wp2
   go_ret2
   exact ⟨_,by first|rfl|(simp [ae,af]<;>rfl)|(simp [*,ae,af]<;>rfl),by (with_reducible repeat (first|apply Kd.ik|apply Kd.gV|apply Kd.iq));exact Aoj.out,bz HB⟩
  ·rw [aj c7] at H
   cases H
def jg.f (k:Nat) (aI:Int) (aV:Int) (aX:Int) (bn:Int) (bY:List Int):Option (Int):=(bI.f aI aV 0 bn bY).bind fun Sv=>(if Sv.2=0 then ((kN.f k Sv.1).bind fun Abe=>(some Abe)) else (some 0))
theorem jg.calls (k:Nat) (aI:Int) (aV:Int) (aX:Int) (bn:Int) (iO:Option Addr) (iP:Nat) (bY:List Int) (r:Int) (w:World) (nI:Kd.C (Kd.int .u8) w iO bY.length bY) (nJ:bY.length<=iP) (h:jg.f k aI aV aX bn bY=some r):
  Calls Try.prog 54 #[.agg #[.int .u8 aI,.int .u8 aV,.int .u16 aX,.int .u32 bn,.slice iO bY.length iP]] w fun e w'=>e= .returned (.int .u16 r) /\ Below w.heap.size w w':=by
 have uQ:=Try.underlying101;have uu:=Aside0.mk nI;have uS:=Aside0.mk nJ;clear nI nJ;have HB:=jy w;have H:((bI.f aI aV 0 bn bY).bind fun Sv=>(if Sv.2=0 then ((kN.f k Sv.1).bind fun Abe=>(some Abe)) else (some 0)))=some r:=h;clear h;replace H:=dM H;obtain ⟨⟨AdA,UR⟩,Aw,H⟩:=H
 (try dsimp -simprocs only at H)
 have A2:=Aside0.mk Aw;clear Aw
 by_cases c3:UR=0
 ·rw [ah c3] at H
  have tY:(UR==0)=true:=jf c3;have vI:(UR !=0)=false:=oM c3;clear c3;replace H:=dM H;obtain ⟨Abe,yz,H⟩:=H
  (try dsimp -simprocs only at H)
  have A4:=Aside0.mk yz;clear yz;obtain rfl:=eF H
  go_enter Try.func54,Try.ntmps54
  go_wp2_with (first|((with_reducible refine gate_dst (N:=1) rfl ?_);refine box_event ?hg (N:=1) ?hd (cs:= #[.int .u8 aI,.int .u8 aV,.int .u16 aX,.int .u32 bn,.slice iO bY.length iP]) (t:=101) ?hr ?_;(case hd=>rfl);(case hg=>rfl);(case hr=>first|(go_simp;done)|(go_simp;rfl));intro xn hg w5 hbox hb;have ay:=Aside0.mk (ag (bz HB) hb);have aC:=Aside0.mk (hbox);have bg:=Aside0.mk ((by rw [hg];exact (below_size (bz HB)):w.heap.size<=xn));have dm:=Aside0.mk ((by rw [hg];exact (below_size (bz HB)):w.heap.size<=xn));clear HB;have HB:=ay;have o9:=aC;have Aok:=bg;have Aol:=dm;clear ay aC bg dm;clear hb hbox hg;have OB:w5.cell? ⟨xn,0,none⟩=some (.int .u8 aI):=cz o9.out 0 rfl;have OC:w5.cell? ⟨xn,1,none⟩=some (.int .u8 aV):=cz o9.out 1 rfl;have OD:w5.cell? ⟨xn,2,none⟩=some (.int .u16 aX):=cz o9.out 2 rfl;have OE:w5.cell? ⟨xn,3,none⟩=some (.int .u32 bn):=cz o9.out 3 rfl;have Aam:w5.cell? ⟨xn,4,none⟩=some (.slice iO bY.length iP):=cz o9.out 4 rfl;have OG:=blk_frozen o9.out 0;have OH:=blk_frozen o9.out 1;have OI:=blk_frozen o9.out 2;have OJ:=blk_frozen o9.out 3;have Aan:=blk_frozen o9.out 4)|((with_reducible refine ai (f:=55) rfl ?_);refine gL 8 Try.func55 #[.agg #[.int .u8 aI,.int .u8 aV,.int .u16 0,.int .u32 bn,.slice iO bY.length iP]] ?_;(with_reducible refine (bI.calls aI aV 0 bn _ _ bY AdA UR _ ?au ?ax A2.out).mono ?_);(case au=>exact Kd.aJ uu.out (bz HB));(case ax=>exact uS.out);rintro e w7 ⟨AuV,rfl,ho0,hb⟩;refine ⟨_,rfl, ?_⟩;have ay:=Aside0.mk (Kd.R_lower ho0 (below_size (bz HB)));have aC:=Aside0.mk (aZ (g:=xn) (o:= .cells #[.int .u8 aI,.int .u8 aV,.int .u16 0,.int .u32 bn,.slice iO bY.length iP] 101 (0,0)) (by (with_reducible repeat (first|refine aH ?_ _|refine az ?_|refine aG ?_ _));refine bH (cs:= #[.int .u8 aI,.int .u8 aV,.int .u16 aX,.int .u32 bn,.slice iO bY.length iP]) ?_ 2 _ rfl;(with_reducible repeat (first|refine aH ?_ _|refine az ?_|refine aG ?_ _));exact o9.out) hb);have bg:=Aside0.mk (ag (bz HB) hb);clear o9;clear HB;have KX:=ay;have o9:=aC;have HB:=bg;clear ay aC bg;(try clear hb);(try clear hb2);(try clear hk);(try clear hi);(try clear ho0);obtain ⟨Ao8,co8,eo8⟩:=Kd.dN KX.out;subst eo8)|((with_reducible refine ai (f:=85) rfl ?_);refine gL 14 Try.func85 #[.slice Ao8 AdA.length co8] ?_;(with_reducible refine (kN.calls k _ _ AdA Abe _ ?au ?ax A4.out).mono ?_);(case au=>repeat (first|exact (Kd.R_reads' KX.out).2.2|(with_reducible refine Kd.iL ?_ _)|(with_reducible refine Kd.iD ?_ _)|(with_reducible refine Kd.jE ?_)));(case ax=>exact (Kd.R_reads' KX.out).2.1);rintro e w9 ⟨rfl,hb⟩;refine ⟨_,rfl, ?_⟩;have ay:=Aside0.mk (Kd.jd (Kd.rz KX) hb);have aC:=Aside0.mk (aZ (kz o9) hb);have bg:=Aside0.mk (ag (bz HB) hb);clear KX;clear o9;clear HB;have KX:=ay;have o9:=aC;have HB:=bg;clear ay aC bg;(try clear hb);(try clear hb2);(try clear hk);(try clear hi)))
  go_ret
  exact ⟨by first|rfl|(simp [ae,af]<;>rfl)|(simp [*,ae,af]<;>rfl),bz HB⟩
 ·rw [aj c3] at H
  have tY:(UR==0)=false:=iM c3;have vI:(UR !=0)=true:=pq c3;obtain rfl:=eF H
  go_enter Try.func54,Try.ntmps54
  go_wp2_with (first|((with_reducible refine gate_dst (N:=1) rfl ?_);refine box_event ?hg (N:=1) ?hd (cs:= #[.int .u8 aI,.int .u8 aV,.int .u16 aX,.int .u32 bn,.slice iO bY.length iP]) (t:=101) ?hr ?_;(case hd=>rfl);(case hg=>rfl);(case hr=>first|(go_simp;done)|(go_simp;rfl));intro xn hg w10 hbox hb;have ay:=Aside0.mk (ag (bz HB) hb);have aC:=Aside0.mk (hbox);have bg:=Aside0.mk ((by rw [hg];exact (below_size (bz HB)):w.heap.size<=xn));have dm:=Aside0.mk ((by rw [hg];exact (below_size (bz HB)):w.heap.size<=xn));clear HB;have HB:=ay;have o9:=aC;have Aok:=bg;have Aol:=dm;clear ay aC bg dm;clear hb hbox hg;have DW:w10.cell? ⟨xn,0,none⟩=some (.int .u8 aI):=cz o9.out 0 rfl;have DX:w10.cell? ⟨xn,1,none⟩=some (.int .u8 aV):=cz o9.out 1 rfl;have DY:w10.cell? ⟨xn,2,none⟩=some (.int .u16 aX):=cz o9.out 2 rfl;have DZ:w10.cell? ⟨xn,3,none⟩=some (.int .u32 bn):=cz o9.out 3 rfl;have O1:w10.cell? ⟨xn,4,none⟩=some (.slice iO bY.length iP):=cz o9.out 4 rfl;have D9:=blk_frozen o9.out 0;have Ea:=blk_frozen o9.out 1;have Eb:=blk_frozen o9.out 2;have Ec:=blk_frozen o9.out 3;have O3:=blk_frozen o9.out 4)|((with_reducible refine ai (f:=55) rfl ?_);refine gL 8 Try.func55 #[.agg #[.int .u8 aI,.int .u8 aV,.int .u16 0,.int .u32 bn,.slice iO bY.length iP]] ?_;(with_reducible refine (bI.calls aI aV 0 bn _ _ bY AdA UR _ ?au ?ax A2.out).mono ?_);(case au=>exact Kd.aJ uu.out (bz HB));(case ax=>exact uS.out);rintro e w12 ⟨AuV,rfl,ho0,hb⟩;refine ⟨_,rfl, ?_⟩;have ay:=Aside0.mk (Kd.R_lower ho0 (below_size (bz HB)));have aC:=Aside0.mk (aZ (g:=xn) (o:= .cells #[.int .u8 aI,.int .u8 aV,.int .u16 0,.int .u32 bn,.slice iO bY.length iP] 101 (0,0)) (by (with_reducible repeat (first|refine aH ?_ _|refine az ?_|refine aG ?_ _));refine bH (cs:= #[.int .u8 aI,.int .u8 aV,.int .u16 aX,.int .u32 bn,.slice iO bY.length iP]) ?_ 2 _ rfl;(with_reducible repeat (first|refine aH ?_ _|refine az ?_|refine aG ?_ _));exact o9.out) hb);have bg:=Aside0.mk (ag (bz HB) hb);clear o9;clear HB;have KX:=ay;have o9:=aC;have HB:=bg;clear ay aC bg;(try clear hb);(try clear hb2);(try clear hk);(try clear hi);(try clear ho0)))
  go_ret
  exact ⟨by first|rfl|(simp [ae,af]<;>rfl)|(simp [*,ae,af]<;>rfl),bz HB⟩
def pO.f (k:Nat) (a0:Int) (a1:Int) (fH:Int) (fJ:Int) (fF:Int) (jH:List Int):Option (Int):=(bU.f fH fJ 0 jH).bind fun KY=>(if KY.2=0 then ((fM.f k a0 a1 17 (KY.1.length:Int)).bind fun MX=>((bM.f k MX KY.1).bind fun MZ=>((bF.f k MZ).bind fun Hz=>(if (Go.bits .xor .u16 IntKind.u16.max Hz)=0 then (some 65535) else (some (Go.bits .xor .u16 IntKind.u16.max Hz)))))) else (some 0))
theorem pO.calls (k:Nat) (a0:Int) (a1:Int) (fH:Int) (fJ:Int) (fF:Int) (pI:Option Addr) (pJ:Nat) (jH:List Int) (r:Int) (w:World) (Df:Kd.C (Kd.int .u8) w pI jH.length jH) (Dh:jH.length<=pJ) (h:pO.f k a0 a1 fH fJ fF jH=some r):
  Calls Try.prog 72 #[.int .u32 a0,.int .u32 a1,.agg #[.int .u16 fH,.int .u16 fJ,.int .u16 fF,.slice pI jH.length pJ]] w fun e w'=>e= .returned (.int .u16 r) /\ Below w.heap.size w w':=by
 have F7:=Try.underlying83;have OA:IntKind.u16.signed=false:=rfl;have Di:=Aside0.mk Df;have Dj:=Aside0.mk Dh;clear Df Dh;have HB:=jy w;have H:((bU.f fH fJ 0 jH).bind fun KY=>(if KY.2=0 then ((fM.f k a0 a1 17 (KY.1.length:Int)).bind fun MX=>((bM.f k MX KY.1).bind fun MZ=>((bF.f k MZ).bind fun Hz=>(if (Go.bits .xor .u16 IntKind.u16.max Hz)=0 then (some 65535) else (some (Go.bits .xor .u16 IntKind.u16.max Hz)))))) else (some 0)))=some r:=h;clear h;replace H:=dM H;obtain ⟨⟨KZ,Sz⟩,yz,H⟩:=H
 (try dsimp -simprocs only at H)
 have A4:=Aside0.mk yz;clear yz
 by_cases c5:Sz=0
 ·rw [ah c5] at H
  have qR:(Sz==0)=true:=jf c5;have wO:(Sz !=0)=false:=oM c5;clear c5;replace H:=dM H;obtain ⟨MX,Ce,H⟩:=H
  (try dsimp -simprocs only at H)
  have A6:=Aside0.mk Ce;clear Ce;replace H:=dM H;obtain ⟨MZ,Iq,H⟩:=H
  (try dsimp -simprocs only at H)
  have A7:=Aside0.mk Iq;clear Iq;replace H:=dM H;obtain ⟨Hz,Sm,H⟩:=H
  (try dsimp -simprocs only at H)
  have A8:=Aside0.mk Sm;clear Sm
  by_cases c9:(Go.bits .xor .u16 IntKind.u16.max Hz)=0
  ·rw [ah c9] at H
   have CW:((Go.bits .xor .u16 IntKind.u16.max Hz)==0)=true:=jf c9;have Xq:((Go.bits .xor .u16 IntKind.u16.max Hz) !=0)=false:=oM c9;clear c9;obtain rfl:=eF H
   go_enter Try.func72,Try.ntmps72
   go_wp2_with (first|((with_reducible refine gate_dst (N:=5) rfl ?_);refine box_event ?hg (N:=5) ?hd (cs:= #[.int .u16 fH,.int .u16 fJ,.int .u16 fF,.slice pI jH.length pJ]) (t:=83) ?hr ?_;(case hd=>rfl);(case hg=>rfl);(case hr=>first|(go_simp;done)|(go_simp;rfl));intro sO hg w10 hbox hb;have ay:=Aside0.mk (ag (bz HB) hb);have aC:=Aside0.mk (hbox);have bg:=Aside0.mk ((by rw [hg];exact (below_size (bz HB)):w.heap.size<=sO));have dm:=Aside0.mk ((by rw [hg];exact (below_size (bz HB)):w.heap.size<=sO));clear HB;have HB:=ay;have kZ:=aC;have Af3:=bg;have Af4:=dm;clear ay aC bg dm;clear hb hbox hg;have DW:w10.cell? ⟨sO,0,none⟩=some (.int .u16 fH):=cz kZ.out 0 rfl;have DX:w10.cell? ⟨sO,1,none⟩=some (.int .u16 fJ):=cz kZ.out 1 rfl;have DY:w10.cell? ⟨sO,2,none⟩=some (.int .u16 fF):=cz kZ.out 2 rfl;have DZ:w10.cell? ⟨sO,3,none⟩=some (.slice pI jH.length pJ):=cz kZ.out 3 rfl;have D9:=blk_frozen kZ.out 0;have Ea:=blk_frozen kZ.out 1;have Eb:=blk_frozen kZ.out 2;have Ec:=blk_frozen kZ.out 3)|((with_reducible refine ai (f:=48) rfl ?_);refine gL 13 Try.func48 #[.agg #[.int .u16 fH,.int .u16 fJ,.int .u16 0,.slice pI jH.length pJ]] ?_;(with_reducible refine (bU.calls fH fJ 0 _ _ jH KZ Sz _ ?au ?ax A4.out).mono ?_);(case au=>exact Kd.aJ Di.out (bz HB));(case ax=>exact Dj.out);rintro e w12 ⟨Aom,rfl,ho0,hb⟩;refine ⟨_,rfl, ?_⟩;have ay:=Aside0.mk (Kd.R_lower ho0 (below_size (bz HB)));have aC:=Aside0.mk (aZ (g:=sO) (o:= .cells #[.int .u16 fH,.int .u16 fJ,.int .u16 0,.slice pI jH.length pJ] 83 (0,0)) (by (with_reducible repeat (first|refine aH ?_ _|refine az ?_|refine aG ?_ _));refine bH (cs:= #[.int .u16 fH,.int .u16 fJ,.int .u16 fF,.slice pI jH.length pJ]) ?_ 2 _ rfl;(with_reducible repeat (first|refine aH ?_ _|refine az ?_|refine aG ?_ _));exact kZ.out) hb);have bg:=Aside0.mk (ag (bz HB) hb);clear kZ;clear HB;have zL:=ay;have kZ:=aC;have HB:=bg;clear ay aC bg;(try clear hb);(try clear hb2);(try clear hk);(try clear hi);(try clear ho0);obtain ⟨Sr,Su,UQ⟩:=Kd.dN zL.out;subst UQ)|((with_reducible refine ai (f:=82) rfl ?_);refine gL 22 Try.func82 #[.int .u32 a0,.int .u32 a1,.int .u8 17,.int .i64 (KZ.length:Int)] ?_;(with_reducible refine (fM.calls k a0 a1 17 (KZ.length:Int) MX _ A6.out).mono ?_);rintro e w' ⟨rfl,⟨nd,rfl⟩⟩;refine ⟨_,rfl, ?_⟩)|((with_reducible refine ai (f:=80) rfl ?_);refine gL 24 Try.func80 #[.int .u32 MX,.slice Sr KZ.length Su] ?_;(with_reducible refine (bM.calls k MX _ _ KZ MZ _ ?au ?ax A7.out).mono ?_);(case au=>repeat (first|exact (Kd.R_reads' zL.out).2.2|(with_reducible refine Kd.iL ?_ _)|(with_reducible refine Kd.iD ?_ _)|(with_reducible refine Kd.jE ?_)));(case ax=>exact (Kd.R_reads' zL.out).2.1);rintro e w14 ⟨rfl,hb⟩;refine ⟨_,rfl, ?_⟩;have ay:=Aside0.mk (Kd.jd (Kd.rz zL) hb);have aC:=Aside0.mk (aZ (kz kZ) hb);have bg:=Aside0.mk (ag (bz HB) hb);clear zL;clear kZ;clear HB;have zL:=ay;have kZ:=aC;have HB:=bg;clear ay aC bg;(try clear hb);(try clear hb2);(try clear hk);(try clear hi))|((with_reducible refine ai (f:=79) rfl ?_);refine gL 25 Try.func79 #[.int .u32 MZ] ?_;(with_reducible refine (bF.calls k MZ Hz _ A8.out).mono ?_);rintro e w' ⟨rfl,⟨nd,rfl⟩⟩;refine ⟨_,rfl, ?_⟩))
   go_ret
   exact ⟨by first|rfl|(simp [ae,af]<;>rfl)|(simp [*,ae,af]<;>rfl),bz HB⟩
  ·rw [aj c9] at H
   have CW:((Go.bits .xor .u16 IntKind.u16.max Hz)==0)=false:=iM c9;have Xq:((Go.bits .xor .u16 IntKind.u16.max Hz) !=0)=true:=pq c9;obtain rfl:=eF H
   go_enter Try.func72,Try.ntmps72
   go_wp2_with (first|((with_reducible refine gate_dst (N:=5) rfl ?_);refine box_event ?hg (N:=5) ?hd (cs:= #[.int .u16 fH,.int .u16 fJ,.int .u16 fF,.slice pI jH.length pJ]) (t:=83) ?hr ?_;(case hd=>rfl);(case hg=>rfl);(case hr=>first|(go_simp;done)|(go_simp;rfl));intro sO hg w15 hbox hb;have ay:=Aside0.mk (ag (bz HB) hb);have aC:=Aside0.mk (hbox);have bg:=Aside0.mk ((by rw [hg];exact (below_size (bz HB)):w.heap.size<=sO));have dm:=Aside0.mk ((by rw [hg];exact (below_size (bz HB)):w.heap.size<=sO));clear HB;have HB:=ay;have kZ:=aC;have Af3:=bg;have Af4:=dm;clear ay aC bg dm;clear hb hbox hg;have Aq1:w15.cell? ⟨sO,0,none⟩=some (.int .u16 fH):=cz kZ.out 0 rfl;have Aq2:w15.cell? ⟨sO,1,none⟩=some (.int .u16 fJ):=cz kZ.out 1 rfl;have Aq3:w15.cell? ⟨sO,2,none⟩=some (.int .u16 fF):=cz kZ.out 2 rfl;have Aq4:w15.cell? ⟨sO,3,none⟩=some (.slice pI jH.length pJ):=cz kZ.out 3 rfl;have Aq5:=blk_frozen kZ.out 0;have Aq6:=blk_frozen kZ.out 1;have Aq7:=blk_frozen kZ.out 2;have Aq8:=blk_frozen kZ.out 3)|((with_reducible refine ai (f:=48) rfl ?_);refine gL 13 Try.func48 #[.agg #[.int .u16 fH,.int .u16 fJ,.int .u16 0,.slice pI jH.length pJ]] ?_;(with_reducible refine (bU.calls fH fJ 0 _ _ jH KZ Sz _ ?au ?ax A4.out).mono ?_);(case au=>exact Kd.aJ Di.out (bz HB));(case ax=>exact Dj.out);rintro e w17 ⟨Aom,rfl,ho0,hb⟩;refine ⟨_,rfl, ?_⟩;have ay:=Aside0.mk (Kd.R_lower ho0 (below_size (bz HB)));have aC:=Aside0.mk (aZ (g:=sO) (o:= .cells #[.int .u16 fH,.int .u16 fJ,.int .u16 0,.slice pI jH.length pJ] 83 (0,0)) (by (with_reducible repeat (first|refine aH ?_ _|refine az ?_|refine aG ?_ _));refine bH (cs:= #[.int .u16 fH,.int .u16 fJ,.int .u16 fF,.slice pI jH.length pJ]) ?_ 2 _ rfl;(with_reducible repeat (first|refine aH ?_ _|refine az ?_|refine aG ?_ _));exact kZ.out) hb);have bg:=Aside0.mk (ag (bz HB) hb);clear kZ;clear HB;have zL:=ay;have kZ:=aC;have HB:=bg;clear ay aC bg;(try clear hb);(try clear hb2);(try clear hk);(try clear hi);(try clear ho0);obtain ⟨AdB,AdC,Ajp⟩:=Kd.dN zL.out;subst Ajp)|((with_reducible refine ai (f:=82) rfl ?_);refine gL 22 Try.func82 #[.int .u32 a0,.int .u32 a1,.int .u8 17,.int .i64 (KZ.length:Int)] ?_;(with_reducible refine (fM.calls k a0 a1 17 (KZ.length:Int) MX _ A6.out).mono ?_);rintro e w' ⟨rfl,⟨nd,rfl⟩⟩;refine ⟨_,rfl, ?_⟩)|((with_reducible refine ai (f:=80) rfl ?_);refine gL 24 Try.func80 #[.int .u32 MX,.slice AdB KZ.length AdC] ?_;(with_reducible refine (bM.calls k MX _ _ KZ MZ _ ?au ?ax A7.out).mono ?_);(case au=>repeat (first|exact (Kd.R_reads' zL.out).2.2|(with_reducible refine Kd.iL ?_ _)|(with_reducible refine Kd.iD ?_ _)|(with_reducible refine Kd.jE ?_)));(case ax=>exact (Kd.R_reads' zL.out).2.1);rintro e w19 ⟨rfl,hb⟩;refine ⟨_,rfl, ?_⟩;have ay:=Aside0.mk (Kd.jd (Kd.rz zL) hb);have aC:=Aside0.mk (aZ (kz kZ) hb);have bg:=Aside0.mk (ag (bz HB) hb);clear zL;clear kZ;clear HB;have zL:=ay;have kZ:=aC;have HB:=bg;clear ay aC bg;(try clear hb);(try clear hb2);(try clear hk);(try clear hi))|((with_reducible refine ai (f:=79) rfl ?_);refine gL 25 Try.func79 #[.int .u32 MZ] ?_;(with_reducible refine (bF.calls k MZ Hz _ A8.out).mono ?_);rintro e w' ⟨rfl,⟨nd,rfl⟩⟩;refine ⟨_,rfl, ?_⟩))
   go_ret
   exact ⟨by first|rfl|(simp [ae,af]<;>rfl)|(simp [*,ae,af]<;>rfl),bz HB⟩
 ·rw [aj c5] at H
  have qR:(Sz==0)=false:=iM c5;have wO:(Sz !=0)=true:=pq c5;obtain rfl:=eF H
  go_enter Try.func72,Try.ntmps72
  go_wp2_with (first|((with_reducible refine gate_dst (N:=5) rfl ?_);refine box_event ?hg (N:=5) ?hd (cs:= #[.int .u16 fH,.int .u16 fJ,.int .u16 fF,.slice pI jH.length pJ]) (t:=83) ?hr ?_;(case hd=>rfl);(case hg=>rfl);(case hr=>first|(go_simp;done)|(go_simp;rfl));intro sO hg w20 hbox hb;have ay:=Aside0.mk (ag (bz HB) hb);have aC:=Aside0.mk (hbox);have bg:=Aside0.mk ((by rw [hg];exact (below_size (bz HB)):w.heap.size<=sO));have dm:=Aside0.mk ((by rw [hg];exact (below_size (bz HB)):w.heap.size<=sO));clear HB;have HB:=ay;have kZ:=aC;have Af3:=bg;have Af4:=dm;clear ay aC bg dm;clear hb hbox hg;have Aq9:w20.cell? ⟨sO,0,none⟩=some (.int .u16 fH):=cz kZ.out 0 rfl;have Ara:w20.cell? ⟨sO,1,none⟩=some (.int .u16 fJ):=cz kZ.out 1 rfl;have Arb:w20.cell? ⟨sO,2,none⟩=some (.int .u16 fF):=cz kZ.out 2 rfl;have Arc:w20.cell? ⟨sO,3,none⟩=some (.slice pI jH.length pJ):=cz kZ.out 3 rfl;have Ard:=blk_frozen kZ.out 0;have Are:=blk_frozen kZ.out 1;have Arf:=blk_frozen kZ.out 2;have Arh:=blk_frozen kZ.out 3)|((with_reducible refine ai (f:=48) rfl ?_);refine gL 13 Try.func48 #[.agg #[.int .u16 fH,.int .u16 fJ,.int .u16 0,.slice pI jH.length pJ]] ?_;(with_reducible refine (bU.calls fH fJ 0 _ _ jH KZ Sz _ ?au ?ax A4.out).mono ?_);(case au=>exact Kd.aJ Di.out (bz HB));(case ax=>exact Dj.out);rintro e w22 ⟨Aom,rfl,ho0,hb⟩;refine ⟨_,rfl, ?_⟩;have ay:=Aside0.mk (Kd.R_lower ho0 (below_size (bz HB)));have aC:=Aside0.mk (aZ (g:=sO) (o:= .cells #[.int .u16 fH,.int .u16 fJ,.int .u16 0,.slice pI jH.length pJ] 83 (0,0)) (by (with_reducible repeat (first|refine aH ?_ _|refine az ?_|refine aG ?_ _));refine bH (cs:= #[.int .u16 fH,.int .u16 fJ,.int .u16 fF,.slice pI jH.length pJ]) ?_ 2 _ rfl;(with_reducible repeat (first|refine aH ?_ _|refine az ?_|refine aG ?_ _));exact kZ.out) hb);have bg:=Aside0.mk (ag (bz HB) hb);clear kZ;clear HB;have zL:=ay;have kZ:=aC;have HB:=bg;clear ay aC bg;(try clear hb);(try clear hb2);(try clear hk);(try clear hi);(try clear ho0)))
  go_ret
  exact ⟨by first|rfl|(simp [ae,af]<;>rfl)|(simp [*,ae,af]<;>rfl),bz HB⟩
attribute [local go_sem] dV dW gI gJ dG dH dX dY
def ak.j0:Nat ->Bool ->Int ->Int ->Int ->Int ->Int ->Int ->Int ->Int ->List Int ->List Int ->Option (List Int×Int)
 |0,_,_,_,_,_,_,_,_,_,_,_=>none
 |k+1,x16,AdD,AdE,AdF,AdG,AdH,AdI,AdJ,AdK,JC,PK=>if x16=true then (some (([]:List Int),21)) else (if (PK.length:Int)>(wrap64 (65515 - (wrap64 (20+(JC.length:Int))))) then (some (([]:List Int),23)) else ((aY.f ([]:List Int) AdD).bind fun PL=>((aY.f PL AdE).bind fun PM=>((dZ.f PM AdF).bind fun PN=>((dZ.f PN AdG).bind fun I4=>((some (([(((wrap64 (Int.tdiv (wrap64 (20+(JC.length:Int))) 4)) % 256)*16) % 256,AdH]:List Int):List Int)).bind fun Dz=>(if I4.length+Dz.length<140737488355328 then ((aY.f (I4++Dz) AdI).bind fun La=>((aY.f La AdJ).bind fun Lc=>((aY.f Lc AdK).bind fun H6=>(if H6.length+JC.length<140737488355328 then ((some (H6++JC:List Int)).bind fun GK=>(if GK.length+PK.length<140737488355328 then (some ((GK++PK),0)) else (none))) else (none))))) else (none))))))))
def ak.f (k:Nat) (aI:Int) (aV:Int) (aX:Int) (bn:Int) (eP:Int) (eX:Int) (fC:Int) (fD:Int) (bD:List Int) (dw:List Int):Option (List Int×Int):=if ((bD.length:Int) % 4)=0 then (ak.j0 k (decide ((bD.length:Int)>40)) aI aV aX bn eP eX fC fD bD dw) else (ak.j0 k true aI aV aX bn eP eX fC fD bD dw)
def ak.T6:Bool×List (List Nat×List Nat):=(true,[([],[]),([0],[0]),([1],[1]),([],[]),([3],[3]),([2,4,2],[2,4]),([],[]),([6],[6]),([5,7,5],[5,7]),([],[]),([9],[9]),([8,10,8],[8,10]),([11,11,0,1,2,3,4,5,6,7,8,9,10,11],[11])])
def ak.B6:List Nat:=[0,1,3,0,8,31,0,64,255,0,512,2047,4095]
theorem ak.tab6:rtab .any (opsOf Try.f75 6)=ak.T6:=by kernel_rfl
theorem ak.Aon:waitsOk ak.T6.2 ak.B6=true:=by kernel_rfl
def ak.T7:Bool×List (List Nat×List Nat):=(true,[([],[]),([],[]),([1],[1]),([2],[2]),([3],[3]),([],[]),([5],[5]),([4,6],[4,6]),([0,7],[0,7]),([],[]),([9],[9]),([8,10,8],[8,10]),([11,11,0,1,2,3,4,5,6,7,8,9,10,11],[0,11])])
def ak.B7:List Nat:=[0,0,2,6,14,0,32,126,255,0,512,2047,4095]
theorem ak.Zx:rtab .any (opsOf Try.f75 7)=ak.T7:=by kernel_rfl
theorem ak.QH:waitsOk ak.T7.2 ak.B7=true:=by kernel_rfl
def ak.T8:Bool×List (List Nat×List Nat):=(true,[([],[]),([],[]),([1],[1]),([0,2],[0,2]),([],[]),([4],[4]),([3,5,3],[3,5]),([6,6,0,1,2,3,4,5,6],[0,6])])
def ak.B8:List Nat:=[0,0,2,7,0,16,63,127]
theorem ak.MP:rtab .any (opsOf Try.f75 8)=ak.T8:=by kernel_rfl
theorem ak.EM:waitsOk ak.T8.2 ak.B8=true:=by kernel_rfl
def ak.T9:Bool×List (List Nat×List Nat):=(true,[([],[]),([],[]),([1],[1]),([0,2],[0,2]),([],[]),([4],[4]),([3,5,3],[3,5]),([6,6,0,1,2,3,4,5,6],[6]),([7,0,1,2,3,4,5,6,7],[])])
def ak.B9:List Nat:=[0,0,2,7,0,16,63,127,255]
theorem ak.Ajq:rtab .any (opsOf Try.f75 9)=ak.T9:=by kernel_rfl
theorem ak.Abf:waitsOk ak.T9.2 ak.B9=true:=by kernel_rfl
theorem ak.calls (k:Nat) (aI:Int) (aV:Int) (aX:Int) (bn:Int) (eP:Int) (eX:Int) (fC:Int) (fD:Int) (lX:Option Addr) (lY:Nat) (bD:List Int) (lZ:Option Addr) (l7:Nat) (dw:List Int) (r1:List Int) (r2:Int) (w:World) (zD:Kd.C (Kd.int .u8) w lX bD.length bD) (zF:bD.length<=lY) (zG:Kd.C (Kd.int .u8) w lZ dw.length dw) (zH:dw.length<=l7) (h:ak.f k aI aV aX bn eP eX fC fD bD dw=some (r1,r2)):
  Calls Try.prog 75 #[.agg #[.int .u16 aI,.int .u16 aV,.int .u32 aX,.int .u32 bn,.int .u8 eP,.int .u16 eX,.int .u16 fC,.int .u16 fD,.slice lX bD.length lY,.slice lZ dw.length l7]] w fun e w'=>∃ uP:Value,e= .returned (.tuple #[uP,.int .i64 r2]) /\ Kd.R (Kd.int .u8) 5 w' w.heap.size (fun _=>True) uP r1 /\ Below w.heap.size w w':=by
 have Ag:=Try.underlying137;have IA:=Aside0.mk zD;have Rn:=Aside0.mk zF;clear zD zF;have IB:=Aside0.mk zG;have Ro:=Aside0.mk zH;clear zG zH;have HB:=jy w;have H:(if ((bD.length:Int) % 4)=0 then (ak.j0 k (decide ((bD.length:Int)>40)) aI aV aX bn eP eX fC fD bD dw) else (ak.j0 k true aI aV aX bn eP eX fC fD bD dw))=some (r1,r2):=h;clear h;have HC2:=Aside0.mk H;clear H
 go_enter Try.func75,Try.ntmps75
 go_upto_region 1 with (first|((with_reducible refine gate_dst (N:=1) rfl ?_);(try (refine eH (by rfl) ?_;dsimp only));refine box_event ?hg (N:=1) ?hd (cs:= #[.int .u16 aI,.int .u16 aV,.int .u32 aX,.int .u32 bn,.int .u8 eP,.int .u16 eX,.int .u16 fC,.int .u16 fD,.slice lX bD.length lY,.slice lZ dw.length l7]) (t:=137) ?hr ?_;(case hd=>rfl);(case hg=>rfl);(case hr=>first|(go_simp;done)|(go_simp;rfl));intro kQ hg w3 hbox hb;have ay:=Aside0.mk (ag (bz HB) hb);have aC:=Aside0.mk (hbox);have bg:=Aside0.mk ((by rw [hg];exact (below_size (bz HB)):w.heap.size<=kQ));have dm:=Aside0.mk ((by rw [hg];exact (below_size (bz HB)):w.heap.size<=kQ));clear HB;have HB:=ay;have aW:=aC;have AxE:=bg;have AxF:=dm;clear ay aC bg dm;clear hb hbox hg))
 (try simp only [Act.put,List.setIfInBounds_toArray,List.set_cons_zero,List.set_cons_succ])
 go_cut [16] (fun v16 wc=>∃ (kq:Nat) (WE:Bool),v16= .bool WE /\ Aside0 (ak.j0 kq WE aI aV aX bn eP eX fC fD bD dw=some (r1,r2)) /\ Aside0 (kq<=k) /\ Aside0 (wc.heap[kQ]?=some (.cells #[.int .u16 aI,.int .u16 aV,.int .u32 aX,.int .u32 bn,.int .u8 eP,.int .u16 eX,.int .u16 fC,.int .u16 fD,(.slice lX bD.length lY),(.slice lZ dw.length l7)] 137 (0,0))) /\ Aside0 (Below w.heap.size w wc))
 case first=>
  have H:=HC2.out;clear HC2
  by_cases c4:((bD.length:Int) % 4)=0
  ·rw [ah c4] at H
   have qE:(((bD.length:Int) % 4)==0)=true:=jf c4;have Eh:(((bD.length:Int) % 4) !=0)=false:=oM c4;clear c4
   (first|rw [qE]|(simp only [i64_w,i32_w];rw [qE])|skip)
   have H':=Aside0.mk H;clear H;have AcS:=xC aW.out;have AcT:=blk_frozen aW.out
   go_wp2
   go_meet
   case rel=>exact ⟨_,(decide ((bD.length:Int)>40)),(by first|rfl|(simp;done)|(simp [*];done)),H',⟨by first|omega|exact Nat.le_refl _⟩,⟨kz aW⟩,⟨bz HB⟩⟩
  ·rw [aj c4] at H
   have qE:(((bD.length:Int) % 4)==0)=false:=iM c4;have Eh:(((bD.length:Int) % 4) !=0)=true:=pq c4
   (first|rw [qE]|(simp only [i64_w,i32_w];rw [qE])|skip)
   have H':=Aside0.mk H;clear H;have VS:=xC aW.out;have VT:=blk_frozen aW.out
   go_wp2
   go_meet
   case rel=>exact ⟨_,(true),(by first|rfl|(simp;done)|(simp [*];done)),H',⟨by first|omega|exact Nat.le_refl _⟩,⟨kz aW⟩,⟨bz HB⟩⟩
 case rest=>
  clear HC2;obtain ⟨kq,WE,rfl,HA,HJ1,aW,HB⟩:=hcut
  cases kq with
  |zero=>exact absurd HA.out (by simp [ak.j0])
  |succ XD=>
   have H:=HA.out;clear HA;simp only [ak.j0] at H
   by_cases c7:WE=true
   ·subst c7
    have H1:(some (([]:List Int),21))=some (r1,r2):=by rw [ah rfl] at H;exact H
    clear H;have H:=H1;clear H1;simp only [Option.some.injEq,Prod.mk.injEq] at H
    obtain ⟨rfl,rfl⟩:=H
    go_wp2
    go_ret2
    exact ⟨_,by first|rfl|(simp [ae,af]<;>rfl)|(simp [*,ae,af]<;>rfl),by first|exact Kd.bV _ _ _ _ _|exact Kd.lV _ _ _ _ _|exact Kd.lW _ _ _ _ _|exact Kd.lT _ _ _ _ _|exact Kd.lU _ _ _ _ _,bz HB⟩
   ·replace c7:=FT c7
    subst c7
    have H1:(if (dw.length:Int)>(wrap64 (65515 - (wrap64 (20+(bD.length:Int))))) then (some (([]:List Int),23)) else ((aY.f ([]:List Int) aI).bind fun PL=>((aY.f PL aV).bind fun PM=>((dZ.f PM aX).bind fun PN=>((dZ.f PN bn).bind fun I4=>((some (([(((wrap64 (Int.tdiv (wrap64 (20+(bD.length:Int))) 4)) % 256)*16) % 256,eP]:List Int):List Int)).bind fun Dz=>(if I4.length+Dz.length<140737488355328 then ((aY.f (I4++Dz) eX).bind fun La=>((aY.f La fC).bind fun Lc=>((aY.f Lc fD).bind fun H6=>(if H6.length+bD.length<140737488355328 then ((some (H6++bD:List Int)).bind fun GK=>(if GK.length+dw.length<140737488355328 then (some ((GK++dw),0)) else (none))) else (none))))) else (none))))))))=some (r1,r2):=by rw [aj (show ¬ (false=true) by decide)] at H;exact H
    clear H;have H:=H1;clear H1
    by_cases c8:(dw.length:Int)>(wrap64 (65515 - (wrap64 (20+(bD.length:Int)))))
    ·rw [ah c8] at H
     have uf:decide ((wrap64 (65515 - (wrap64 (20+(bD.length:Int)))))<(dw.length:Int))=true:=bJ c8;clear c8;simp only [Option.some.injEq,Prod.mk.injEq] at H
     obtain ⟨rfl,rfl⟩:=H;have Wh:=xC aW.out;have Wi:=blk_frozen aW.out
     go_wp2
     go_ret2
     exact ⟨_,by first|rfl|(simp [ae,af]<;>rfl)|(simp [*,ae,af]<;>rfl),by first|exact Kd.bV _ _ _ _ _|exact Kd.lV _ _ _ _ _|exact Kd.lW _ _ _ _ _|exact Kd.lT _ _ _ _ _|exact Kd.lU _ _ _ _ _,bz HB⟩
    ·rw [aj c8] at H
     have uf:decide ((wrap64 (65515 - (wrap64 (20+(bD.length:Int)))))<(dw.length:Int))=false:=jC c8;clear c8;replace H:=dM H;obtain ⟨PL,Gg,H⟩:=H
     (try dsimp -simprocs only at H)
     have Ue:=Aside0.mk Gg;clear Gg;replace H:=dM H;obtain ⟨PM,QI,H⟩:=H
     (try dsimp -simprocs only at H)
     have A11:=Aside0.mk QI;clear QI;replace H:=dM H;obtain ⟨PN,Gh,H⟩:=H
     (try dsimp -simprocs only at H)
     have A12:=Aside0.mk Gh;clear Gh;replace H:=dM H;obtain ⟨I4,J6,H⟩:=H
     (try dsimp -simprocs only at H)
     have YB:=Aside0.mk J6;clear J6;obtain ⟨Dz,SA⟩:∃ y_:List Int,y_=(([(((wrap64 (Int.tdiv (wrap64 (20+(bD.length:Int))) 4)) % 256)*16) % 256,eP]:List Int)):=⟨_,rfl⟩
     replace H:(if I4.length+Dz.length<140737488355328 then ((aY.f (I4++Dz) eX).bind fun La=>((aY.f La fC).bind fun Lc=>((aY.f Lc fD).bind fun H6=>(if H6.length+bD.length<140737488355328 then ((some (H6++bD:List Int)).bind fun GK=>(if GK.length+dw.length<140737488355328 then (some ((GK++dw),0)) else (none))) else (none))))) else (none))=some (r1,r2):=by first|(rw [SA];with_reducible exact H)|(have oO:=(bG _ _).symm.trans H;rw [SA];with_reducible exact oO)|(have oO:=(bG _ _).symm.trans H;with_reducible exact oO)|with_reducible exact H|(rw [SA];exact H)|exact H
     have Af5:=Aside0.mk SA;clear SA
     by_cases c14:I4.length+Dz.length<140737488355328
     ·rw [ah c14] at H
      have Aoo:=Aside0.mk c14;clear c14;obtain ⟨AdL,Abg⟩:∃ y_:List Int,y_=(I4++Dz):=⟨_,rfl⟩
      rw [<- Abg] at H
      have Aop:=Aside0.mk Abg;clear Abg;replace H:=dM H;obtain ⟨La,Ld,H⟩:=H
      (try dsimp -simprocs only at H)
      have A15:=Aside0.mk Ld;clear Ld;replace H:=dM H;obtain ⟨Lc,CU,H⟩:=H
      (try dsimp -simprocs only at H)
      have YC:=Aside0.mk CU;clear CU;replace H:=dM H;obtain ⟨H6,QJ,H⟩:=H
      (try dsimp -simprocs only at H)
      have YD:=Aside0.mk QJ;clear QJ
      by_cases c18:H6.length+bD.length<140737488355328
      ·rw [ah c18] at H
       have Aoq:=Aside0.mk c18;clear c18;obtain ⟨GK,SB⟩:∃ y_:List Int,y_=(H6++bD):=⟨_,rfl⟩
       replace H:(if GK.length+dw.length<140737488355328 then (some ((GK++dw),0)) else (none))=some (r1,r2):=by first|(rw [SB];with_reducible exact H)|(have oO:=(bG _ _).symm.trans H;rw [SB];with_reducible exact oO)|(have oO:=(bG _ _).symm.trans H;with_reducible exact oO)|with_reducible exact H|(rw [SB];exact H)|exact H
       have Aor:=Aside0.mk SB;clear SB
       by_cases c19:GK.length+dw.length<140737488355328
       ·rw [ah c19] at H
        have Aos:=Aside0.mk c19;clear c19;obtain ⟨AuW,SC⟩:∃ y_:List Int,y_=(GK++dw):=⟨_,rfl⟩
        replace H:(some (AuW,0))=some (r1,r2):=by first|(rw [SC];with_reducible exact H)|(have oO:=(bG _ _).symm.trans H;rw [SC];with_reducible exact oO)|(have oO:=(bG _ _).symm.trans H;with_reducible exact oO)|with_reducible exact H|(rw [SC];exact H)|exact H
        have Aot:=Aside0.mk SC;clear SC;simp only [Option.some.injEq,Prod.mk.injEq] at H
        obtain ⟨rfl,rfl⟩:=H;have Aou:=xC aW.out;have Aov:=blk_frozen aW.out
        try go_wp2
        have ay:=Aside0.mk (az aW.out);have aC:=Aside0.mk (below_drew1 HB.out);clear aW;clear HB;have aW:=ay;have HB:=aC;clear ay aC
        refine start_ (n:=13) (S:=fun w'=>w'.cell? ⟨kQ,0,none⟩=some (.int .u16 aI) /\ w'.cell? ⟨kQ,1,none⟩=some (.int .u16 aV) /\ w'.cell? ⟨kQ,2,none⟩=some (.int .u32 aX) /\ w'.cell? ⟨kQ,3,none⟩=some (.int .u32 bn) /\ w'.cell? ⟨kQ,4,none⟩=some (.int .u8 eP) /\ w'.cell? ⟨kQ,5,none⟩=some (.int .u16 eX) /\ w'.cell? ⟨kQ,6,none⟩=some (.int .u16 fC) /\ w'.cell? ⟨kQ,7,none⟩=some (.int .u16 fD) /\ w'.cell? ⟨kQ,8,none⟩=some (.slice lX bD.length lY) /\ w'.cell? ⟨kQ,9,none⟩=some (.slice lZ dw.length l7)) (ds:=[]) #[false,false,false,false,false,false,false,false,false,false,false,false,false] (by kernel_rfl) rfl rfl ⟨cz aW.out 0 rfl,cz aW.out 1 rfl,cz aW.out 2 rfl,cz aW.out 3 rfl,cz aW.out 4 rfl,cz aW.out 5 rfl,cz aW.out 6 rfl,cz aW.out 7 rfl,cz aW.out 8 rfl,cz aW.out 9 rfl⟩ (fun hHeld=> ?_);refine with_tabW ak.tab6 ak.Aon (fun HT_ HW_=> ?_)
        generalize wc.drew=w21 at aW HB hHeld|-
        refine pz 0 27 HT_ ?_;refine pz 3 30 HT_ ?_;refine pz 6 33 HT_ ?_;refine pz 9 36 HT_ ?_;refine take_ (i:=1) (N:=some 28) (v:= ?_) (a':= ?_) #[true,true,false,true,false,false,true,false,false,true,false,false,false] rfl rfl (take_ofW HT_.out HW_.out (by kernel_rfl)) (fun _ _ _ h=>h) (Or.inl ⟨by rfl, ?_⟩) hHeld ?_ ?_
        rotate_left
        ·rintro w' ⟨s0,s1,s2,s3,s4,s5,s6,s7,s8,s9⟩
         go_simp
         with_reducible rfl
        rotate_left
        ·simp only [vF]
         rfl
        refine take_ (i:=4) (N:=some 31) (v:= ?_) (a':= ?_) #[true,true,false,true,true,false,true,false,false,true,false,false,false] rfl rfl (take_ofW HT_.out HW_.out (by kernel_rfl)) (fun _ _ _ h=>h) (Or.inl ⟨by rfl, ?_⟩) hHeld ?_ ?_
        rotate_left
        ·rintro w' ⟨s0,s1,s2,s3,s4,s5,s6,s7,s8,s9⟩
         go_simp
         with_reducible rfl
        rotate_left
        ·simp only [vF]
         rfl
        refine take_ (i:=7) (N:=some 34) (v:= ?_) (a':= ?_) #[true,true,false,true,true,false,true,true,false,true,false,false,false] rfl rfl (take_ofW HT_.out HW_.out (by kernel_rfl)) (fun _ _ _ h=>h) (Or.inl ⟨by rfl, ?_⟩) hHeld ?_ ?_
        rotate_left
        ·rintro w' ⟨s0,s1,s2,s3,s4,s5,s6,s7,s8,s9⟩
         go_simp
         with_reducible rfl
        rotate_left
        ·simp only [vF]
         rfl
        refine take_ (i:=10) (N:=some 37) (v:= ?_) (a':= ?_) #[true,true,false,true,true,false,true,true,false,true,true,false,false] rfl rfl (take_ofW HT_.out HW_.out (by kernel_rfl)) (fun _ _ _ h=>h) (Or.inl ⟨by rfl, ?_⟩) hHeld ?_ ?_
        rotate_left
        ·rintro w' ⟨s0,s1,s2,s3,s4,s5,s6,s7,s8,s9⟩
         go_simp
         with_reducible rfl
        rotate_left
        ·simp only [vF]
         rfl
        refine oz 2 (some 29) HT_ (fun K hK=> ?_);refine gG Try.func83 #[.slice none 0 0,.int .u16 aI] ?_;refine (aY.calls (fun k_=>some k_=(.slice none 0 0:Value).ownBlock) (.slice none 0 0) ([]:List Int) aI PL w _ ?au ?ax Ue.out).mono ?_
        (case au=>exact bz HB)
        (case ax=>exact Kd.bV _ _ _ _ _)
        rintro e w22 ⟨AzW,rfl,ho0,hb,hkp⟩;refine ⟨_,rfl, ?_⟩;have ay:=Aside0.mk (lC (kz aW) hkp (fun hs_=>(fun e_=>by simp [Value.ownBlock] at e_) hs_));have aC:=Aside0.mk (Kd.R_mono (ok':=fun k_=>True) ho0 (fun k_ wF=>trivial));have bg:=Aside0.mk (hb);clear aW;clear HB;have aW:=ay;have WG:=aC;have HB:=bg;clear ay aC bg
        (try clear hb)
        (try clear hkp)
        (try clear ho0)
        obtain ⟨Ajs,AdM,Abh⟩:=Kd.dN WG.out
        (first|subst Abh|(injection Abh with rF xE rG;have xG:=rF.symm;have xH:=rG.symm;clear rF xE rG;subst xG;subst xH))
        refine hK.out _ _ ⟨cz aW.out 0 rfl,cz aW.out 1 rfl,cz aW.out 2 rfl,cz aW.out 3 rfl,cz aW.out 4 rfl,cz aW.out 5 rfl,cz aW.out 6 rfl,cz aW.out 7 rfl,cz aW.out 8 rfl,cz aW.out 9 rfl⟩ (fun hHeld=> ?_);clear hK K;refine nz 29 ?_;refine oz 5 (some 32) HT_ (fun K hK=> ?_);refine gG Try.func83 #[.slice Ajs PL.length AdM,.int .u16 aV] ?_
        with_reducible refine (aY.calls (fun k_=>some k_=(.slice Ajs PL.length AdM:Value).ownBlock) (.slice Ajs PL.length AdM) PL aV PM w _ ?au ?ax A11.out).mono ?_
        (case au=>exact bz HB)
        (case ax=>exact Kd.oP rfl WG.out)
        rintro e w24 ⟨AzX,rfl,ho0,hb,hkp⟩;refine ⟨_,rfl, ?_⟩;have ay:=Aside0.mk (lC (kz aW) hkp (fun hs_=>(fun e_=>(Kd.rV WG.out aW.out (by decide)) e_) hs_));have aC:=Aside0.mk (Kd.R_mono (ok':=fun k_=>True) ho0 (fun k_ wF=>trivial));have bg:=Aside0.mk (hb);clear aW;clear HB;clear WG;have aW:=ay;have WH:=aC;have HB:=bg;clear ay aC bg
        (try clear hb)
        (try clear hkp)
        (try clear ho0)
        obtain ⟨Ajt,Aju,Aow⟩:=Kd.dN WH.out
        (first|subst Aow|(injection Aow with rF xE rG;have xG:=rF.symm;have xH:=rG.symm;clear rF xE rG;subst xG;subst xH))
        refine hK.out _ _ ⟨cz aW.out 0 rfl,cz aW.out 1 rfl,cz aW.out 2 rfl,cz aW.out 3 rfl,cz aW.out 4 rfl,cz aW.out 5 rfl,cz aW.out 6 rfl,cz aW.out 7 rfl,cz aW.out 8 rfl,cz aW.out 9 rfl⟩ (fun hHeld=> ?_);clear hK K;refine nz 32 ?_;refine oz 8 (some 35) HT_ (fun K hK=> ?_);refine gG Try.func84 #[.slice Ajt PM.length Aju,.int .u32 aX] ?_
        with_reducible refine (dZ.calls (fun k_=>some k_=(.slice Ajt PM.length Aju:Value).ownBlock) (.slice Ajt PM.length Aju) PM aX PN w _ ?au ?ax A12.out).mono ?_
        (case au=>exact bz HB)
        (case ax=>exact Kd.oP rfl WH.out)
        rintro e w26 ⟨AzY,rfl,ho0,hb,hkp⟩;refine ⟨_,rfl, ?_⟩;have ay:=Aside0.mk (lC (kz aW) hkp (fun hs_=>(fun e_=>(Kd.rV WH.out aW.out (by decide)) e_) hs_));have aC:=Aside0.mk (Kd.R_mono (ok':=fun k_=>True) ho0 (fun k_ wF=>trivial));have bg:=Aside0.mk (hb);clear aW;clear HB;clear WH;have aW:=ay;have WI:=aC;have HB:=bg;clear ay aC bg
        (try clear hb)
        (try clear hkp)
        (try clear ho0)
        obtain ⟨SE,SG,Abi⟩:=Kd.dN WI.out
        (first|subst Abi|(injection Abi with rF xE rG;have xG:=rF.symm;have xH:=rG.symm;clear rF xE rG;subst xG;subst xH))
        refine hK.out _ _ ⟨cz aW.out 0 rfl,cz aW.out 1 rfl,cz aW.out 2 rfl,cz aW.out 3 rfl,cz aW.out 4 rfl,cz aW.out 5 rfl,cz aW.out 6 rfl,cz aW.out 7 rfl,cz aW.out 8 rfl,cz aW.out 9 rfl⟩ (fun hHeld=> ?_);clear hK K;refine nz 35 ?_;refine oz 11 (some 38) HT_ (fun K hK=> ?_);refine gG Try.func84 #[.slice SE PN.length SG,.int .u32 bn] ?_
        with_reducible refine (dZ.calls (fun k_=>some k_=(.slice SE PN.length SG:Value).ownBlock) (.slice SE PN.length SG) PN bn I4 w _ ?au ?ax YB.out).mono ?_
        (case au=>exact bz HB)
        (case ax=>exact Kd.oP rfl WI.out)
        rintro e w28 ⟨AuX,rfl,ho0,hb,hkp⟩;refine ⟨_,rfl, ?_⟩;have ay:=Aside0.mk (lC (kz aW) hkp (fun hs_=>(fun e_=>(Kd.rV WI.out aW.out (by decide)) e_) hs_));have aC:=Aside0.mk (Kd.R_mono (ok':=fun k_=>True) ho0 (fun k_ wF=>trivial));have bg:=Aside0.mk (hb);clear aW;clear HB;clear WI;have aW:=ay;have DC:=aC;have HB:=bg;clear ay aC bg
        (try clear hb)
        (try clear hkp)
        (try clear ho0)
        refine hK.out _ _ ⟨cz aW.out 0 rfl,cz aW.out 1 rfl,cz aW.out 2 rfl,cz aW.out 3 rfl,cz aW.out 4 rfl,cz aW.out 5 rfl,cz aW.out 6 rfl,cz aW.out 7 rfl,cz aW.out 8 rfl,cz aW.out 9 rfl⟩ (fun hHeld=> ?_);clear hK K;refine nz 38 ?_;refine pz 12 5 HT_ ?_;refine dz HT_ ?_
        try go_wp2
        have ay:=Aside0.mk (Kd.iq DC.out);have aC:=Aside0.mk (az aW.out);have bg:=Aside0.mk (below_drew1 HB.out);clear DC;clear aW;clear HB;have DC:=ay;have aW:=aC;have HB:=bg;clear ay aC bg
        refine start_ (n:=13) (S:=fun w'=>w'.cell? ⟨kQ,0,none⟩=some (.int .u16 aI) /\ w'.cell? ⟨kQ,1,none⟩=some (.int .u16 aV) /\ w'.cell? ⟨kQ,2,none⟩=some (.int .u32 aX) /\ w'.cell? ⟨kQ,3,none⟩=some (.int .u32 bn) /\ w'.cell? ⟨kQ,4,none⟩=some (.int .u8 eP) /\ w'.cell? ⟨kQ,5,none⟩=some (.int .u16 eX) /\ w'.cell? ⟨kQ,6,none⟩=some (.int .u16 fC) /\ w'.cell? ⟨kQ,7,none⟩=some (.int .u16 fD) /\ w'.cell? ⟨kQ,8,none⟩=some (.slice lX bD.length lY) /\ w'.cell? ⟨kQ,9,none⟩=some (.slice lZ dw.length l7)) (ds:=[]) #[false,false,false,false,false,false,false,false,false,false,false,false,false] (by kernel_rfl) rfl rfl ⟨cz aW.out 0 rfl,cz aW.out 1 rfl,cz aW.out 2 rfl,cz aW.out 3 rfl,cz aW.out 4 rfl,cz aW.out 5 rfl,cz aW.out 6 rfl,cz aW.out 7 rfl,cz aW.out 8 rfl,cz aW.out 9 rfl⟩ (fun hHeld=> ?_);refine with_tabW ak.Zx ak.QH (fun HT_ HW_=> ?_)
        generalize w28.drew=w29 at DC aW HB hHeld|-
        refine pz 0 39 HT_ ?_;refine pz 1 40 HT_ ?_;refine pz 2 41 HT_ ?_;refine pz 3 42 HT_ ?_;refine pz 4 43 HT_ ?_;refine pz 5 44 HT_ ?_;refine pz 9 48 HT_ ?_;refine take_ (i:=6) (N:=some 45) (v:= ?_) (a':= ?_) #[true,true,true,true,true,true,true,false,false,true,false,false,false] rfl rfl (take_ofW HT_.out HW_.out (by kernel_rfl)) (fun _ _ _ h=>h) (Or.inl ⟨by rfl, ?_⟩) hHeld ?_ ?_
        rotate_left
        ·rintro w' ⟨s0,s1,s2,s3,s4,s5,s6,s7,s8,s9⟩
         go_simp
         with_reducible rfl
        rotate_left
        ·simp only [vF]
         rfl
        refine take_ (i:=10) (N:=some 49) (v:= ?_) (a':= ?_) #[true,true,true,true,true,true,true,false,false,true,true,false,false] rfl rfl (take_ofW HT_.out HW_.out (by kernel_rfl)) (fun _ _ _ h=>h) (Or.inl ⟨by rfl, ?_⟩) hHeld ?_ ?_
        rotate_left
        ·rintro w' ⟨s0,s1,s2,s3,s4,s5,s6,s7,s8,s9⟩
         go_simp
         with_reducible rfl
        rotate_left
        ·simp only [vF]
         rfl
        refine oz 7 (some 46) HT_ (fun K hK=> ?_)
        refine Kd.wM (Kd.int .u8) _ 5 ?hg (N:=46) ?hd (xs:=([(((wrap64 (Int.tdiv (wrap64 (20+(bD.length:Int))) 4)) % 256)*16) % 256,eP]:List Int)) (inner:=[.int .u8 ((((wrap64 (Int.tdiv (wrap64 (20+(bD.length:Int))) 4)) % 256)*16) % 256),.int .u8 eP]) (ok:=fun _=>True) (xw:=fun _=>True) ?hr ?hp (fun _ hk=>hk) trivial (Below.refl _ _) (Nat.le_refl _) (by simp) ?_;(case hd=>rfl);(case hg=>rfl);(case hr=>first|(go_simp;done)|(go_simp;simp only [IntKind.wrap_u8,IntKind.wrap_u16,IntKind.wrap_u32];done)|(go_simp;rfl));(case hp=>exact (dn.one (show Kd.M (Kd.int .u8) _ _ _ ((((wrap64 (Int.tdiv (wrap64 (20+(bD.length:Int))) 4)) % 256)*16) % 256) [.int .u8 ((((wrap64 (Int.tdiv (wrap64 (20+(bD.length:Int))) 4)) % 256)*16) % 256)] from rfl) (dn.one (show Kd.M (Kd.int .u8) _ _ _ eP [.int .u8 eP] from rfl) (dn.none _ _))))
        intro AzZ XE XU hb hg_ kP;clear hg_ kP
        (first|rw [<- Af5.out] at XU|(simp only [Int.reduceToNat] at XU;rw [<- Af5.out] at XU))
        have ay:=Aside0.mk (Kd.rD (Kd.rz DC) (Kd.nU XU) hb);have aC:=Aside0.mk (Kd.R_lower (Kd.xy XU (Kd.uB (Kd.rz DC))) (below_size (bz HB)));have bg:=Aside0.mk (aZ (kz aW) hb);have dm:=Aside0.mk (ag (bz HB) hb);clear DC;clear aW;clear HB;have DC:=ay;have l9:=aC;have aW:=bg;have HB:=dm;clear ay aC bg dm;clear hb XU;obtain ⟨Hw,Gv,MS⟩:=Kd.dN l9.out
        (first|subst MS|(injection MS with rF xE rG;have xG:=rF.symm;have xH:=rG.symm;clear rF xE rG;subst xG;subst xH))
        refine hK.out _ _ ⟨cz aW.out 0 rfl,cz aW.out 1 rfl,cz aW.out 2 rfl,cz aW.out 3 rfl,cz aW.out 4 rfl,cz aW.out 5 rfl,cz aW.out 6 rfl,cz aW.out 7 rfl,cz aW.out 8 rfl,cz aW.out 9 rfl⟩ (fun hHeld=> ?_);clear hK K;refine nz 46 ?_;refine oz 8 (some 47) HT_ (fun K hK=> ?_);refine Kd.mD (Kd.int .u8) (w0:=w) w.heap.size (by rfl) (.tmp 39) (.tmp 46) 23 5 (.int .u8 0) 1 rfl Try.underlying23 info5 rfl (by decide) (by omega) AuX I4 Dz _ _ _ (fun k_=>some k_≠(.slice Hw Dz.length Gv:Value).ownBlock) (fun _=>False) rfl rfl ?aO ?aR (fun _ _ h=>h) (fun _ h=>h.elim) ?aF ?aB ?aS ?aL ?_
        (case aR=>repeat (first|exact (Kd.R_reads' l9.out).2.2|(with_reducible refine Kd.iL ?_ _)|(with_reducible refine Kd.iD ?_ _)|(with_reducible refine Kd.jE ?_)))
        (case aB=>exact bz HB)
        (case aF=>exact (fun k_ hk=>Kd.fresh' (Kd.uB (Kd.rz l9)) k_ hk))
        (case aO=>exact (by (with_reducible repeat (first|apply Kd.ik|apply Kd.gV|apply Kd.iq));exact Kd.R_mono DC.out (fun _ hk=>hk.2)))
        (case aS=>exact (below_size (bz HB)))
        (case aL=>have:=Aoo.out;omega)
        intro Az0 w32 ho hb hg hat;rw [<- Aop.out] at ho
        have ay:=Aside0.mk (jK (kz aW) hg (Kd.rV DC.out aW.out (by decide)));have aC:=Aside0.mk (Kd.tX (ok:=(fun _=>True)) (Kd.rz l9) hg hat);have bg:=Aside0.mk (hb);have dm:=Aside0.mk (ho);clear aW;clear l9;clear HB;clear DC;have aW:=ay;have l9:=aC;have HB:=bg;have WJ:=dm;clear ay aC bg dm;clear ho hb hg hat;obtain ⟨Ajv,Ajw,Aox⟩:=Kd.dN WJ.out
        (first|subst Aox|(injection Aox with rF xE rG;have xG:=rF.symm;have xH:=rG.symm;clear rF xE rG;subst xG;subst xH))
        refine hK.out _ _ ⟨cz aW.out 0 rfl,cz aW.out 1 rfl,cz aW.out 2 rfl,cz aW.out 3 rfl,cz aW.out 4 rfl,cz aW.out 5 rfl,cz aW.out 6 rfl,cz aW.out 7 rfl,cz aW.out 8 rfl,cz aW.out 9 rfl⟩ (fun hHeld=> ?_);clear hK K;refine nz 47 ?_;refine oz 11 (some 50) HT_ (fun K hK=> ?_);refine gG Try.func83 #[.slice Ajv AdL.length Ajw,.int .u16 eX] ?_
        with_reducible refine (aY.calls (fun k_=>some k_=(.slice Ajv AdL.length Ajw:Value).ownBlock) (.slice Ajv AdL.length Ajw) AdL eX La w _ ?au ?ax A15.out).mono ?_
        (case au=>exact bz HB)
        (case ax=>exact Kd.oP rfl WJ.out)
        rintro e Hg ⟨AuY,rfl,ho0,hb,hkp⟩;refine ⟨_,rfl, ?_⟩;have ay:=Aside0.mk (lC (kz aW) hkp (fun hs_=>(fun e_=>(Kd.rV WJ.out aW.out (by decide)) e_) hs_));have aC:=Aside0.mk (Kd.R_mono (ok':=fun k_=>some k_≠(AuY:Value).ownBlock) (Kd.DT (l9.out) hkp (fun k_ wF hs_=>(wF.2) hs_)) (fun k_ wF=>fun e_=>Or.elim (ho0.1 k_ e_.symm) (fun hs_=>wF.2.1 hs_) (fun Le=>Nat.not_le.2 wF.2.2 Le)));have bg:=Aside0.mk (Kd.R_mono (ok':=fun k_=>some k_≠(.slice Hw Dz.length Gv:Value).ownBlock) ho0 (fun k_ wF=>Or.elim wF (fun hs_=>fun e_=>(((l9.out).1 k_ e_.symm).2) hs_) (fun Le=>(Kd.fresh' (Kd.uB (Kd.rz l9)) k_ Le))));have dm:=Aside0.mk (hb);clear aW;clear l9;clear HB;clear WJ;have aW:=ay;have l9:=aC;have IE:=bg;have HB:=dm;clear ay aC bg dm
        (try clear hb)
        (try clear hkp)
        (try clear ho0)
        refine hK.out _ _ ⟨cz aW.out 0 rfl,cz aW.out 1 rfl,cz aW.out 2 rfl,cz aW.out 3 rfl,cz aW.out 4 rfl,cz aW.out 5 rfl,cz aW.out 6 rfl,cz aW.out 7 rfl,cz aW.out 8 rfl,cz aW.out 9 rfl⟩ (fun hHeld=> ?_);clear hK K;refine nz 50 ?_;refine pz 12 5 HT_ ?_;refine dz HT_ ?_
        try go_wp2
        have ay:=Aside0.mk (Kd.iq l9.out);have aC:=Aside0.mk (Kd.iq IE.out);have bg:=Aside0.mk (az aW.out);have dm:=Aside0.mk (below_drew1 HB.out);clear l9;clear IE;clear aW;clear HB;have l9:=ay;have IE:=aC;have aW:=bg;have HB:=dm;clear ay aC bg dm;obtain ⟨Ajx,Ajy,Aoy⟩:=Kd.dN IE.out
        (first|subst Aoy|(injection Aoy with rF xE rG;have xG:=rF.symm;have xH:=rG.symm;clear rF xE rG;subst xG;subst xH))
        refine start_ (n:=8) (S:=fun w'=>w'.cell? ⟨kQ,0,none⟩=some (.int .u16 aI) /\ w'.cell? ⟨kQ,1,none⟩=some (.int .u16 aV) /\ w'.cell? ⟨kQ,2,none⟩=some (.int .u32 aX) /\ w'.cell? ⟨kQ,3,none⟩=some (.int .u32 bn) /\ w'.cell? ⟨kQ,4,none⟩=some (.int .u8 eP) /\ w'.cell? ⟨kQ,5,none⟩=some (.int .u16 eX) /\ w'.cell? ⟨kQ,6,none⟩=some (.int .u16 fC) /\ w'.cell? ⟨kQ,7,none⟩=some (.int .u16 fD) /\ w'.cell? ⟨kQ,8,none⟩=some (.slice lX bD.length lY) /\ w'.cell? ⟨kQ,9,none⟩=some (.slice lZ dw.length l7)) (ds:=[]) #[false,false,false,false,false,false,false,false] (by kernel_rfl) rfl rfl ⟨cz aW.out 0 rfl,cz aW.out 1 rfl,cz aW.out 2 rfl,cz aW.out 3 rfl,cz aW.out 4 rfl,cz aW.out 5 rfl,cz aW.out 6 rfl,cz aW.out 7 rfl,cz aW.out 8 rfl,cz aW.out 9 rfl⟩ (fun hHeld=> ?_);refine with_tabW ak.MP ak.EM (fun HT_ HW_=> ?_)
        generalize Hg.drew=w36 at l9 IE aW HB hHeld|-
        refine pz 0 51 HT_ ?_;refine pz 1 52 HT_ ?_;refine pz 4 55 HT_ ?_;refine take_ (i:=2) (N:=some 53) (v:= ?_) (a':= ?_) #[true,true,true,false,true,false,false,false] rfl rfl (take_ofW HT_.out HW_.out (by kernel_rfl)) (fun _ _ _ h=>h) (Or.inl ⟨by rfl, ?_⟩) hHeld ?_ ?_
        rotate_left
        ·rintro w' ⟨s0,s1,s2,s3,s4,s5,s6,s7,s8,s9⟩
         go_simp
         with_reducible rfl
        rotate_left
        ·simp only [vF]
         rfl
        refine take_ (i:=5) (N:=some 56) (v:= ?_) (a':= ?_) #[true,true,true,false,true,true,false,false] rfl rfl (take_ofW HT_.out HW_.out (by kernel_rfl)) (fun _ _ _ h=>h) (Or.inl ⟨by rfl, ?_⟩) hHeld ?_ ?_
        rotate_left
        ·rintro w' ⟨s0,s1,s2,s3,s4,s5,s6,s7,s8,s9⟩
         go_simp
         with_reducible rfl
        rotate_left
        ·simp only [vF]
         rfl
        refine oz 3 (some 54) HT_ (fun K hK=> ?_);refine gG Try.func83 #[.slice Ajx La.length Ajy,.int .u16 fC] ?_
        with_reducible refine (aY.calls (fun k_=>some k_=(.slice Ajx La.length Ajy:Value).ownBlock) (.slice Ajx La.length Ajy) La fC Lc w _ ?au ?ax YC.out).mono ?_
        (case au=>exact bz HB)
        (case ax=>exact Kd.oP rfl IE.out)
        rintro e w38 ⟨AuZ,rfl,ho0,hb,hkp⟩;refine ⟨_,rfl, ?_⟩;have ay:=Aside0.mk (lC (kz aW) hkp (fun hs_=>(fun e_=>(Kd.rV IE.out aW.out (by decide)) e_) hs_));have aC:=Aside0.mk (Kd.R_mono (ok':=fun k_=>some k_≠(AuZ:Value).ownBlock) (Kd.DT (l9.out) hkp (fun k_ wF hs_=>(wF) hs_)) (fun k_ wF=>fun e_=>Or.elim (ho0.1 k_ e_.symm) (fun hs_=>wF.2.1 hs_) (fun Le=>Nat.not_le.2 wF.2.2 Le)));have bg:=Aside0.mk (Kd.R_mono (ok':=fun k_=>some k_≠(.slice Hw Dz.length Gv:Value).ownBlock) ho0 (fun k_ wF=>Or.elim wF (fun hs_=>fun e_=>(((l9.out).1 k_ e_.symm)) hs_) (fun Le=>(Kd.fresh' (Kd.uB (Kd.rz l9)) k_ Le))));have dm:=Aside0.mk (hb);clear aW;clear l9;clear HB;clear IE;have aW:=ay;have l9:=aC;have WL:=bg;have HB:=dm;clear ay aC bg dm
        (try clear hb)
        (try clear hkp)
        (try clear ho0)
        obtain ⟨Pq,GH,UF⟩:=Kd.dN WL.out
        (first|subst UF|(injection UF with rF xE rG;have xG:=rF.symm;have xH:=rG.symm;clear rF xE rG;subst xG;subst xH))
        refine hK.out _ _ ⟨cz aW.out 0 rfl,cz aW.out 1 rfl,cz aW.out 2 rfl,cz aW.out 3 rfl,cz aW.out 4 rfl,cz aW.out 5 rfl,cz aW.out 6 rfl,cz aW.out 7 rfl,cz aW.out 8 rfl,cz aW.out 9 rfl⟩ (fun hHeld=> ?_);clear hK K;refine nz 54 ?_;refine oz 6 (some 57) HT_ (fun K hK=> ?_);refine gG Try.func83 #[.slice Pq Lc.length GH,.int .u16 fD] ?_
        with_reducible refine (aY.calls (fun k_=>some k_=(.slice Pq Lc.length GH:Value).ownBlock) (.slice Pq Lc.length GH) Lc fD H6 w _ ?au ?ax YD.out).mono ?_
        (case au=>exact bz HB)
        (case ax=>exact Kd.oP rfl WL.out)
        rintro e J8 ⟨Aoz,rfl,ho0,hb,hkp⟩;refine ⟨_,rfl, ?_⟩;have ay:=Aside0.mk (lC (kz aW) hkp (fun hs_=>(fun e_=>(Kd.rV WL.out aW.out (by decide)) e_) hs_));have aC:=Aside0.mk (Kd.R_mono (ok':=fun k_=>some k_≠(Aoz:Value).ownBlock) (Kd.DT (l9.out) hkp (fun k_ wF hs_=>(wF) hs_)) (fun k_ wF=>fun e_=>Or.elim (ho0.1 k_ e_.symm) (fun hs_=>wF.2.1 hs_) (fun Le=>Nat.not_le.2 wF.2.2 Le)));have bg:=Aside0.mk (Kd.R_mono (ok':=fun k_=>some k_≠(.slice Hw Dz.length Gv:Value).ownBlock) ho0 (fun k_ wF=>Or.elim wF (fun hs_=>fun e_=>(((l9.out).1 k_ e_.symm)) hs_) (fun Le=>(Kd.fresh' (Kd.uB (Kd.rz l9)) k_ Le))));have dm:=Aside0.mk (hb);clear aW;clear l9;clear HB;clear WL;have aW:=ay;have l9:=aC;have Lh:=bg;have HB:=dm;clear ay aC bg dm
        (try clear hb)
        (try clear hkp)
        (try clear ho0)
        refine hK.out _ _ ⟨cz aW.out 0 rfl,cz aW.out 1 rfl,cz aW.out 2 rfl,cz aW.out 3 rfl,cz aW.out 4 rfl,cz aW.out 5 rfl,cz aW.out 6 rfl,cz aW.out 7 rfl,cz aW.out 8 rfl,cz aW.out 9 rfl⟩ (fun hHeld=> ?_);clear hK K;refine nz 57 ?_;refine pz 7 5 HT_ ?_;refine dz HT_ ?_
        try go_wp2
        have ay:=Aside0.mk (Kd.iq l9.out);have aC:=Aside0.mk (Kd.iq Lh.out);have bg:=Aside0.mk (az aW.out);have dm:=Aside0.mk (below_drew1 HB.out);clear l9;clear Lh;clear aW;clear HB;have l9:=ay;have Lh:=aC;have aW:=bg;have HB:=dm;clear ay aC bg dm
        refine start_ (n:=9) (S:=fun w'=>w'.cell? ⟨kQ,0,none⟩=some (.int .u16 aI) /\ w'.cell? ⟨kQ,1,none⟩=some (.int .u16 aV) /\ w'.cell? ⟨kQ,2,none⟩=some (.int .u32 aX) /\ w'.cell? ⟨kQ,3,none⟩=some (.int .u32 bn) /\ w'.cell? ⟨kQ,4,none⟩=some (.int .u8 eP) /\ w'.cell? ⟨kQ,5,none⟩=some (.int .u16 eX) /\ w'.cell? ⟨kQ,6,none⟩=some (.int .u16 fC) /\ w'.cell? ⟨kQ,7,none⟩=some (.int .u16 fD) /\ w'.cell? ⟨kQ,8,none⟩=some (.slice lX bD.length lY) /\ w'.cell? ⟨kQ,9,none⟩=some (.slice lZ dw.length l7)) (ds:=[]) #[false,false,false,false,false,false,false,false,false] (by kernel_rfl) rfl rfl ⟨cz aW.out 0 rfl,cz aW.out 1 rfl,cz aW.out 2 rfl,cz aW.out 3 rfl,cz aW.out 4 rfl,cz aW.out 5 rfl,cz aW.out 6 rfl,cz aW.out 7 rfl,cz aW.out 8 rfl,cz aW.out 9 rfl⟩ (fun hHeld=> ?_);refine with_tabW ak.Ajq ak.Abf (fun HT_ HW_=> ?_)
        generalize J8.drew=w41 at l9 Lh aW HB hHeld|-
        refine pz 0 58 HT_ ?_;refine pz 1 59 HT_ ?_;refine pz 4 62 HT_ ?_;refine take_ (i:=2) (N:=some 60) (v:= ?_) (a':= ?_) #[true,true,true,false,true,false,false,false,false] rfl rfl (take_ofW HT_.out HW_.out (by kernel_rfl)) (fun _ _ _ h=>h) (Or.inl ⟨by rfl, ?_⟩) hHeld ?_ ?_
        rotate_left
        ·rintro w' ⟨s0,s1,s2,s3,s4,s5,s6,s7,s8,s9⟩
         go_simp
         with_reducible rfl
        rotate_left
        ·simp only [vF]
         rfl
        refine take_ (i:=5) (N:=some 63) (v:= ?_) (a':= ?_) #[true,true,true,false,true,true,false,false,false] rfl rfl (take_ofW HT_.out HW_.out (by kernel_rfl)) (fun _ _ _ h=>h) (Or.inl ⟨by rfl, ?_⟩) hHeld ?_ ?_
        rotate_left
        ·rintro w' ⟨s0,s1,s2,s3,s4,s5,s6,s7,s8,s9⟩
         go_simp
         with_reducible rfl
        rotate_left
        ·simp only [vF]
         rfl
        refine oz 3 (some 61) HT_ (fun K hK=> ?_);refine Kd.mD (Kd.int .u8) (w0:=w) w.heap.size (by rfl) (.tmp 58) (.tmp 60) 23 5 (.int .u8 0) 1 rfl Try.underlying23 info5 rfl (by decide) (by omega) Aoz H6 bD _ _ _ (fun k_=>some k_≠(.slice Hw Dz.length Gv:Value).ownBlock) (fun _=>False) rfl rfl ?aO ?aR (fun _ _ h=>h) (fun _ h=>h.elim) ?aF ?aB ?aS ?aL ?_
        (case aR=>exact Kd.aJ IA.out (bz HB))
        (case aB=>exact bz HB)
        (case aF=>exact (fun k_ hk=>Kd.fresh' (Kd.uB (Kd.rz l9)) k_ hk))
        (case aO=>exact (Kd.rz Lh))
        (case aS=>exact (below_size (bz HB)))
        (case aL=>have:=Aoq.out;omega)
        intro Au0 w42 ho hb hg hat;rw [<- Aor.out] at ho
        have ay:=Aside0.mk (jK (kz aW) hg (Kd.rV Lh.out aW.out (by decide)));have aC:=Aside0.mk (Kd.tX (ok:=(fun _=>True)) (by (with_reducible repeat (first|apply Kd.ik|apply Kd.gV|apply Kd.iq));exact Kd.R_mono l9.out (fun _ hk=>⟨trivial,hk⟩)) hg hat);have bg:=Aside0.mk (hb);have dm:=Aside0.mk (ho);clear aW;clear l9;clear HB;clear Lh;have aW:=ay;have l9:=aC;have HB:=bg;have Abj:=dm;clear ay aC bg dm;clear ho hb hg hat;refine hK.out _ _ ⟨cz aW.out 0 rfl,cz aW.out 1 rfl,cz aW.out 2 rfl,cz aW.out 3 rfl,cz aW.out 4 rfl,cz aW.out 5 rfl,cz aW.out 6 rfl,cz aW.out 7 rfl,cz aW.out 8 rfl,cz aW.out 9 rfl⟩ (fun hHeld=> ?_);clear hK K;refine nz 61 ?_;refine oz 6 (some 64) HT_ (fun K hK=> ?_)
        refine Kd.mD (Kd.int .u8) (w0:=w) w.heap.size (by rfl) (.tmp 61) (.tmp 63) 23 5 (.int .u8 0) 1 rfl Try.underlying23 info5 rfl (by decide) (by omega) Au0 GK dw _ _ _ (fun k_=>some k_≠(.slice Hw Dz.length Gv:Value).ownBlock) (fun _=>False) rfl rfl ?aO ?aR (fun _ _ h=>h) (fun _ h=>h.elim) ?aF ?aB ?aS ?aL ?_
        (case aR=>exact Kd.aJ IB.out (bz HB))
        (case aB=>exact bz HB)
        (case aF=>exact (fun k_ hk=>Kd.fresh' (Kd.uB (Kd.rz l9)) k_ hk))
        (case aO=>exact (Kd.rz Abj))
        (case aS=>exact (below_size (bz HB)))
        (case aL=>have:=Aos.out;omega)
        intro Az1 w43 ho hb hg hat;rw [<- Aot.out] at ho
        have ay:=Aside0.mk (jK (kz aW) hg (Kd.rV Abj.out aW.out (by decide)));have aC:=Aside0.mk (Kd.tX (ok:=(fun _=>True)) (Kd.rz l9) hg hat);have bg:=Aside0.mk (hb);have dm:=Aside0.mk (ho);clear aW;clear l9;clear HB;clear Abj;have aW:=ay;have l9:=aC;have HB:=bg;have AoA:=dm;clear ay aC bg dm;clear ho hb hg hat;refine hK.out _ _ ⟨cz aW.out 0 rfl,cz aW.out 1 rfl,cz aW.out 2 rfl,cz aW.out 3 rfl,cz aW.out 4 rfl,cz aW.out 5 rfl,cz aW.out 6 rfl,cz aW.out 7 rfl,cz aW.out 8 rfl,cz aW.out 9 rfl⟩ (fun hHeld=> ?_);clear hK K;refine nz 64 ?_;refine pz 7 2 HT_ ?_;refine pz 8 3 HT_ ?_;refine dz HT_ ?_
        try go_wp2
        go_ret2
        exact ⟨_,by first|rfl|(simp [ae,af]<;>rfl)|(simp [*,ae,af]<;>rfl),by (with_reducible repeat (first|apply Kd.ik|apply Kd.gV|apply Kd.iq));exact Kd.R_mono AoA.out (fun _ hk=>trivial),bz HB⟩
       ·rw [aj c19] at H
        cases H
      ·rw [aj c18] at H
       cases H
     ·rw [aj c14] at H
      cases H
attribute [local go_sem] dV dW gI gJ dG dH dX dY
def kS.f (k:Nat) (a0:Int) (a1:Int) (fH:Int) (fJ:Int) (fF:Int) (lK:Int) (lM:Int) (lN:Int) (oK:Int) (lQ:Int) (kE:List Int) (kF:List Int):Option (Int):=(ak.f k fH fJ fF lK lM lN 0 lQ kE kF).bind fun Lj=>(if Lj.2=0 then ((fM.f k a0 a1 6 (Lj.1.length:Int)).bind fun UT=>((bM.f k UT Lj.1).bind fun UU=>((bF.f k UU).bind fun Abk=>(some (Go.bits .xor .u16 IntKind.u16.max Abk))))) else (some 0))
theorem kS.calls (k:Nat) (a0:Int) (a1:Int) (fH:Int) (fJ:Int) (fF:Int) (lK:Int) (lM:Int) (lN:Int) (oK:Int) (lQ:Int) (rW:Option Addr) (rX:Nat) (kE:List Int) (rY:Option Addr) (rZ:Nat) (kF:List Int) (r:Int) (w:World) (Dk:Kd.C (Kd.int .u8) w rW kE.length kE) (Dl:kE.length<=rX) (Dn:Kd.C (Kd.int .u8) w rY kF.length kF) (Dp:kF.length<=rZ) (h:kS.f k a0 a1 fH fJ fF lK lM lN oK lQ kE kF=some r):
  Calls Try.prog 74 #[.int .u32 a0,.int .u32 a1,.agg #[.int .u16 fH,.int .u16 fJ,.int .u32 fF,.int .u32 lK,.int .u8 lM,.int .u16 lN,.int .u16 oK,.int .u16 lQ,.slice rW kE.length rX,.slice rY kF.length rZ]] w fun e w'=>e= .returned (.int .u16 r) /\ Below w.heap.size w w':=by
 have Ag:=Try.underlying137;have OA:IntKind.u16.signed=false:=rfl;have ER:=Aside0.mk Dk;have ES:=Aside0.mk Dl;clear Dk Dl;have EU:=Aside0.mk Dn;have EW:=Aside0.mk Dp;clear Dn Dp;have HB:=jy w;have H:((ak.f k fH fJ fF lK lM lN 0 lQ kE kF).bind fun Lj=>(if Lj.2=0 then ((fM.f k a0 a1 6 (Lj.1.length:Int)).bind fun UT=>((bM.f k UT Lj.1).bind fun UU=>((bF.f k UU).bind fun Abk=>(some (Go.bits .xor .u16 IntKind.u16.max Abk))))) else (some 0)))=some r:=h;clear h;replace H:=dM H;obtain ⟨⟨XV,UW⟩,yz,H⟩:=H
 (try dsimp -simprocs only at H)
 have A4:=Aside0.mk yz;clear yz
 by_cases c5:UW=0
 ·rw [ah c5] at H
  have qR:(UW==0)=true:=jf c5;have wO:(UW !=0)=false:=oM c5;clear c5;replace H:=dM H;obtain ⟨UT,Ce,H⟩:=H
  (try dsimp -simprocs only at H)
  have A6:=Aside0.mk Ce;clear Ce;replace H:=dM H;obtain ⟨UU,Iq,H⟩:=H
  (try dsimp -simprocs only at H)
  have A7:=Aside0.mk Iq;clear Iq;replace H:=dM H;obtain ⟨Abk,Sm,H⟩:=H
  (try dsimp -simprocs only at H)
  have A8:=Aside0.mk Sm;clear Sm;obtain rfl:=eF H
  go_enter Try.func74,Try.ntmps74
  go_wp2_with (first|((with_reducible refine gate_dst (N:=5) rfl ?_);refine box_event ?hg (N:=5) ?hd (cs:= #[.int .u16 fH,.int .u16 fJ,.int .u32 fF,.int .u32 lK,.int .u8 lM,.int .u16 lN,.int .u16 oK,.int .u16 lQ,.slice rW kE.length rX,.slice rY kF.length rZ]) (t:=137) ?hr ?_;(case hd=>rfl);(case hg=>rfl);(case hr=>first|(go_simp;done)|(go_simp;rfl));intro qK hg w9 hbox hb;have ay:=Aside0.mk (ag (bz HB) hb);have aC:=Aside0.mk (hbox);have bg:=Aside0.mk ((by rw [hg];exact (below_size (bz HB)):w.heap.size<=qK));have dm:=Aside0.mk ((by rw [hg];exact (below_size (bz HB)):w.heap.size<=qK));clear HB;have HB:=ay;have jO:=aC;have AoB:=bg;have AoC:=dm;clear ay aC bg dm;clear hb hbox hg;have zk:w9.cell? ⟨qK,0,none⟩=some (.int .u16 fH):=cz jO.out 0 rfl;have zl:w9.cell? ⟨qK,1,none⟩=some (.int .u16 fJ):=cz jO.out 1 rfl;have zn:w9.cell? ⟨qK,2,none⟩=some (.int .u32 fF):=cz jO.out 2 rfl;have zo:w9.cell? ⟨qK,3,none⟩=some (.int .u32 lK):=cz jO.out 3 rfl;have Gq:w9.cell? ⟨qK,4,none⟩=some (.int .u8 lM):=cz jO.out 4 rfl;have Jl:w9.cell? ⟨qK,5,none⟩=some (.int .u16 lN):=cz jO.out 5 rfl;have Jm:w9.cell? ⟨qK,6,none⟩=some (.int .u16 oK):=cz jO.out 6 rfl;have Jn:w9.cell? ⟨qK,7,none⟩=some (.int .u16 lQ):=cz jO.out 7 rfl;have Jo:w9.cell? ⟨qK,8,none⟩=some (.slice rW kE.length rX):=cz jO.out 8 rfl;have Jp:w9.cell? ⟨qK,9,none⟩=some (.slice rY kF.length rZ):=cz jO.out 9 rfl;have zq:=blk_frozen jO.out 0;have zu:=blk_frozen jO.out 1;have zx:=blk_frozen jO.out 2;have zy:=blk_frozen jO.out 3;have Gs:=blk_frozen jO.out 4;have Jq:=blk_frozen jO.out 5;have Jr:=blk_frozen jO.out 6;have Js:=blk_frozen jO.out 7;have Jt:=blk_frozen jO.out 8;have Ju:=blk_frozen jO.out 9)|((with_reducible refine ai (f:=75) rfl ?_);refine gL 12 Try.func75 #[.agg #[.int .u16 fH,.int .u16 fJ,.int .u32 fF,.int .u32 lK,.int .u8 lM,.int .u16 lN,.int .u16 0,.int .u16 lQ,.slice rW kE.length rX,.slice rY kF.length rZ]] ?_;(with_reducible refine (ak.calls k fH fJ fF lK lM lN 0 lQ _ _ kE _ _ kF XV UW _ ?au ?ax ?Ah ?Aj A4.out).mono ?_);(case au=>exact Kd.aJ ER.out (bz HB));(case ax=>exact ES.out);(case Ah=>exact Kd.aJ EU.out (bz HB));(case Aj=>exact EW.out);rintro e w11 ⟨Au1,rfl,ho0,hb⟩;refine ⟨_,rfl, ?_⟩;have ay:=Aside0.mk (Kd.R_lower ho0 (below_size (bz HB)));have aC:=Aside0.mk (aZ (g:=qK) (o:= .cells #[.int .u16 fH,.int .u16 fJ,.int .u32 fF,.int .u32 lK,.int .u8 lM,.int .u16 lN,.int .u16 0,.int .u16 lQ,.slice rW kE.length rX,.slice rY kF.length rZ] 137 (0,0)) (by (with_reducible repeat (first|refine aH ?_ _|refine az ?_|refine aG ?_ _));refine bH (cs:= #[.int .u16 fH,.int .u16 fJ,.int .u32 fF,.int .u32 lK,.int .u8 lM,.int .u16 lN,.int .u16 oK,.int .u16 lQ,.slice rW kE.length rX,.slice rY kF.length rZ]) ?_ 6 _ rfl;(with_reducible repeat (first|refine aH ?_ _|refine az ?_|refine aG ?_ _));exact jO.out) hb);have bg:=Aside0.mk (ag (bz HB) hb);clear jO;clear HB;have Ll:=ay;have jO:=aC;have HB:=bg;clear ay aC bg;(try clear hb);(try clear hb2);(try clear hk);(try clear hi);(try clear ho0);obtain ⟨AoD,AoE,Ajz⟩:=Kd.dN Ll.out;subst Ajz)|((with_reducible refine ai (f:=82) rfl ?_);refine gL 21 Try.func82 #[.int .u32 a0,.int .u32 a1,.int .u8 6,.int .i64 (XV.length:Int)] ?_;(with_reducible refine (fM.calls k a0 a1 6 (XV.length:Int) UT _ A6.out).mono ?_);rintro e w' ⟨rfl,⟨nd,rfl⟩⟩;refine ⟨_,rfl, ?_⟩)|((with_reducible refine ai (f:=80) rfl ?_);refine gL 23 Try.func80 #[.int .u32 UT,.slice AoD XV.length AoE] ?_;(with_reducible refine (bM.calls k UT _ _ XV UU _ ?au ?ax A7.out).mono ?_);(case au=>repeat (first|exact (Kd.R_reads' Ll.out).2.2|(with_reducible refine Kd.iL ?_ _)|(with_reducible refine Kd.iD ?_ _)|(with_reducible refine Kd.jE ?_)));(case ax=>exact (Kd.R_reads' Ll.out).2.1);rintro e w13 ⟨rfl,hb⟩;refine ⟨_,rfl, ?_⟩;have ay:=Aside0.mk (Kd.jd (Kd.rz Ll) hb);have aC:=Aside0.mk (aZ (kz jO) hb);have bg:=Aside0.mk (ag (bz HB) hb);clear Ll;clear jO;clear HB;have Ll:=ay;have jO:=aC;have HB:=bg;clear ay aC bg;(try clear hb);(try clear hb2);(try clear hk);(try clear hi))|((with_reducible refine ai (f:=79) rfl ?_);refine gL 24 Try.func79 #[.int .u32 UU] ?_;(with_reducible refine (bF.calls k UU Abk _ A8.out).mono ?_);rintro e w' ⟨rfl,⟨nd,rfl⟩⟩;refine ⟨_,rfl, ?_⟩))
  go_ret
  exact ⟨by first|rfl|(simp [ae,af]<;>rfl)|(simp [*,ae,af]<;>rfl),bz HB⟩
 ·rw [aj c5] at H
  have qR:(UW==0)=false:=iM c5;have wO:(UW !=0)=true:=pq c5;obtain rfl:=eF H
  go_enter Try.func74,Try.ntmps74
  go_wp2_with (first|((with_reducible refine gate_dst (N:=5) rfl ?_);refine box_event ?hg (N:=5) ?hd (cs:= #[.int .u16 fH,.int .u16 fJ,.int .u32 fF,.int .u32 lK,.int .u8 lM,.int .u16 lN,.int .u16 oK,.int .u16 lQ,.slice rW kE.length rX,.slice rY kF.length rZ]) (t:=137) ?hr ?_;(case hd=>rfl);(case hg=>rfl);(case hr=>first|(go_simp;done)|(go_simp;rfl));intro qK hg w14 hbox hb;have ay:=Aside0.mk (ag (bz HB) hb);have aC:=Aside0.mk (hbox);have bg:=Aside0.mk ((by rw [hg];exact (below_size (bz HB)):w.heap.size<=qK));have dm:=Aside0.mk ((by rw [hg];exact (below_size (bz HB)):w.heap.size<=qK));clear HB;have HB:=ay;have jO:=aC;have AoB:=bg;have AoC:=dm;clear ay aC bg dm;clear hb hbox hg;have AdN:w14.cell? ⟨qK,0,none⟩=some (.int .u16 fH):=cz jO.out 0 rfl;have AdO:w14.cell? ⟨qK,1,none⟩=some (.int .u16 fJ):=cz jO.out 1 rfl;have AdP:w14.cell? ⟨qK,2,none⟩=some (.int .u32 fF):=cz jO.out 2 rfl;have AdQ:w14.cell? ⟨qK,3,none⟩=some (.int .u32 lK):=cz jO.out 3 rfl;have AdR:w14.cell? ⟨qK,4,none⟩=some (.int .u8 lM):=cz jO.out 4 rfl;have AdS:w14.cell? ⟨qK,5,none⟩=some (.int .u16 lN):=cz jO.out 5 rfl;have AdT:w14.cell? ⟨qK,6,none⟩=some (.int .u16 oK):=cz jO.out 6 rfl;have AdU:w14.cell? ⟨qK,7,none⟩=some (.int .u16 lQ):=cz jO.out 7 rfl;have AdV:w14.cell? ⟨qK,8,none⟩=some (.slice rW kE.length rX):=cz jO.out 8 rfl;have AdW:w14.cell? ⟨qK,9,none⟩=some (.slice rY kF.length rZ):=cz jO.out 9 rfl;have AdX:=blk_frozen jO.out 0;have AdY:=blk_frozen jO.out 1;have AdZ:=blk_frozen jO.out 2;have Ad0:=blk_frozen jO.out 3;have Ad1:=blk_frozen jO.out 4;have Ad2:=blk_frozen jO.out 5;have Ad3:=blk_frozen jO.out 6;have Ad4:=blk_frozen jO.out 7;have Ad5:=blk_frozen jO.out 8;have Ad6:=blk_frozen jO.out 9)|((with_reducible refine ai (f:=75) rfl ?_);refine gL 12 Try.func75 #[.agg #[.int .u16 fH,.int .u16 fJ,.int .u32 fF,.int .u32 lK,.int .u8 lM,.int .u16 lN,.int .u16 0,.int .u16 lQ,.slice rW kE.length rX,.slice rY kF.length rZ]] ?_;(with_reducible refine (ak.calls k fH fJ fF lK lM lN 0 lQ _ _ kE _ _ kF XV UW _ ?au ?ax ?Ah ?Aj A4.out).mono ?_);(case au=>exact Kd.aJ ER.out (bz HB));(case ax=>exact ES.out);(case Ah=>exact Kd.aJ EU.out (bz HB));(case Aj=>exact EW.out);rintro e w16 ⟨Au1,rfl,ho0,hb⟩;refine ⟨_,rfl, ?_⟩;have ay:=Aside0.mk (Kd.R_lower ho0 (below_size (bz HB)));have aC:=Aside0.mk (aZ (g:=qK) (o:= .cells #[.int .u16 fH,.int .u16 fJ,.int .u32 fF,.int .u32 lK,.int .u8 lM,.int .u16 lN,.int .u16 0,.int .u16 lQ,.slice rW kE.length rX,.slice rY kF.length rZ] 137 (0,0)) (by (with_reducible repeat (first|refine aH ?_ _|refine az ?_|refine aG ?_ _));refine bH (cs:= #[.int .u16 fH,.int .u16 fJ,.int .u32 fF,.int .u32 lK,.int .u8 lM,.int .u16 lN,.int .u16 oK,.int .u16 lQ,.slice rW kE.length rX,.slice rY kF.length rZ]) ?_ 6 _ rfl;(with_reducible repeat (first|refine aH ?_ _|refine az ?_|refine aG ?_ _));exact jO.out) hb);have bg:=Aside0.mk (ag (bz HB) hb);clear jO;clear HB;have Ll:=ay;have jO:=aC;have HB:=bg;clear ay aC bg;(try clear hb);(try clear hb2);(try clear hk);(try clear hi);(try clear ho0)))
  go_ret
  exact ⟨by first|rfl|(simp [ae,af]<;>rfl)|(simp [*,ae,af]<;>rfl),bz HB⟩
def wL:List Int:=[97,98,99,100,101,102,103,104,105,106,107,108,109,110,111,112]
def qL.f (k:Nat) (pr src dst fr tp fl n:Int):Option (List Int):=
 if pr=17 then
  if Go.bits .and .u8 fl 64=0 then (pO.f k src dst fr tp 0 (wL.take (n.tmod 16).toNat)).bind fun s=>(bU.f fr tp s (wL.take (n.tmod 16).toNat)).bind fun b=>some b.1
  else (bU.f fr tp 0 (wL.take (n.tmod 16).toNat)).bind fun b=>some b.1
 else if pr=6 then
  if Go.bits .and .u8 n 32=0 then (kS.f k src dst fr tp (n % 4294967296) 0 (Go.bits .and .u8 fl 23) 9 0 0 [] (wL.take (n.tmod 16).toNat)).bind fun s=>(ak.f k fr tp (n % 4294967296) 0 (Go.bits .and .u8 fl 23) 9 s 0 [] (wL.take (n.tmod 16).toNat)).bind fun b=>some b.1
  else (kS.f k src dst fr tp (n % 4294967296) 0 (Go.bits .and .u8 fl 23) 9 0 0 [1,1,1,0] (wL.take (n.tmod 16).toNat)).bind fun s=>(ak.f k fr tp (n % 4294967296) 0 (Go.bits .and .u8 fl 23) 9 s 0 [1,1,1,0] (wL.take (n.tmod 16).toNat)).bind fun b=>some b.1
 else if Go.bits .and .u8 fl 1=0 then (jg.f k 8 0 0 (Go.bits .or .u32 (fr % 4294967296*65536 % 4294967296) (n % 4294967296)) (wL.take (n.tmod 16).toNat)).bind fun s=>(bI.f 8 0 s (Go.bits .or .u32 (fr % 4294967296*65536 % 4294967296) (n % 4294967296)) (wL.take (n.tmod 16).toNat)).bind fun b=>some b.1
  else (jg.f k 0 0 0 (Go.bits .or .u32 (fr % 4294967296*65536 % 4294967296) (n % 4294967296)) (wL.take (n.tmod 16).toNat)).bind fun s=>(bI.f 0 0 s (Go.bits .or .u32 (fr % 4294967296*65536 % 4294967296) (n % 4294967296)) (wL.take (n.tmod 16).toNat)).bind fun b=>some b.1
theorem qL.calls (k:Nat) (pr src dst fr tp fl n:Int) (r:List Int) (w:World) (hn:0<=n /\ n<=255) (h:qL.f k pr src dst fr tp fl n=some r):
  Calls Try.prog 53 #[.int .u8 pr,.int .u32 src,.int .u32 dst,.int .u16 fr,.int .u16 tp,.int .u8 fl,.int .u8 n] w fun e w'=>∃ uP:Value,e= .returned uP /\ Kd.R (Kd.int .u8) 5 w' w.heap.size (fun _=>True) uP r /\ Below w.heap.size w w':=by
 have F7:=Try.underlying83;have Ag:=Try.underlying137;have uQ:=Try.underlying101;have HB:=jy w;have Ei:Aside0 ((Try.prog.info? 83).map (·.size)=some 4):=⟨by kernel_rfl⟩
 have qV:Aside0 ((Try.prog.info? 137).map (·.size)=some 10):=⟨by kernel_rfl⟩
 have ou:Aside0 ((Try.prog.info? 101).map (·.size)=some 5):=⟨by kernel_rfl⟩
 obtain ⟨m,hm⟩:∃ m:Nat,n.tmod 16=(m:Int):=⟨(n.tmod 16).toNat,(Int.toNat_of_nonneg (Int.tmod_nonneg _ hn.1)).symm⟩
 have Ad7:m<=wL.length:=by
  have h1:n.tmod 16<16:=Int.tmod_lt_of_pos _ (by decide);have h2:wL.length=16:=rfl
  omega
 obtain ⟨i0,hi0,_,hsz,_⟩:=info_parts info5;have H:qL.f k pr src dst fr tp fl n=some r:=h;clear h;unfold qL.f at H
 rw [hm,Int.toNat_natCast] at H
 obtain ⟨l,hl⟩:∃ l,l=wL.take m:=⟨_,rfl⟩
 have hll:l.length=m:=by rw [hl,List.length_take];omega
 have hcut:=Y3 (P:=Try.prog) 23 5 .u8 Try.underlying23 hi0 (some ⟨w.heap.size,0,none⟩) 16 16 (n.tmod 16) l.length (by rw [hll];exact hm) (by rw [hll];exact Ad7) (Nat.le_refl _);rw [<- hl] at H
 have kc:=Lib.run_convert_bytes_const (P:=Try.prog) w 23 5 #[.int .u8 97,.int .u8 98,.int .u8 99,.int .u8 100,.int .u8 101,.int .u8 102,.int .u8 103,.int .u8 104,.int .u8 105,.int .u8 106,.int .u8 107,.int .u8 108,.int .u8 109,.int .u8 110,.int .u8 111,.int .u8 112] 16 16 Try.underlying23 Try.underlying5;have YE:=Aside0.mk hl;have Lm:=Aside0.mk Ad7;have HM2:Aside0 (l.length<=16):=⟨by rw [hll];exact Ad7⟩
 have HF:=Aside0.mk H;clear hl hll hm Ad7 hi0 hsz H hn
 go_enter Try.func53,Try.ntmps53
 go_upto_region 2 with (fail)
 clear hcut kc;obtain ⟨gd,hgd⟩:∃ x_,x_=w.heap.size:=⟨_,rfl⟩
 have HXd:Aside0 ((w.alloc (.cells #[.int .u8 97,.int .u8 98,.int .u8 99,.int .u8 100,.int .u8 101,.int .u8 102,.int .u8 103,.int .u8 104,.int .u8 105,.int .u8 106,.int .u8 107,.int .u8 108,.int .u8 109,.int .u8 110,.int .u8 111,.int .u8 112] 5 (16,17))).heap[gd]?=some (.cells #[.int .u8 97,.int .u8 98,.int .u8 99,.int .u8 100,.int .u8 101,.int .u8 102,.int .u8 103,.int .u8 104,.int .u8 105,.int .u8 106,.int .u8 107,.int .u8 108,.int .u8 109,.int .u8 110,.int .u8 111,.int .u8 112] 5 (16,17))):=⟨by rw [hgd];exact kW _ _⟩
 rw [<- hgd];clear hgd;have hb_:=fA (Below.refl w.heap.size w) (.cells #[.int .u8 97,.int .u8 98,.int .u8 99,.int .u8 100,.int .u8 101,.int .u8 102,.int .u8 103,.int .u8 104,.int .u8 105,.int .u8 106,.int .u8 107,.int .u8 108,.int .u8 109,.int .u8 110,.int .u8 111,.int .u8 112] 5 (16,17));replace HB:=mB HB hb_;clear hb_;generalize w.alloc (.cells #[.int .u8 97,.int .u8 98,.int .u8 99,.int .u8 100,.int .u8 101,.int .u8 102,.int .u8 103,.int .u8 104,.int .u8 105,.int .u8 106,.int .u8 107,.int .u8 108,.int .u8 109,.int .u8 110,.int .u8 111,.int .u8 112] 5 (16,17))=w1 at HXd HB|-
 have H:=HF.out;clear HF
 by_cases c17:pr=17
 ·have c171:(pr==17)=true:=jf c17
  have Au2:(pr !=17)=false:=by rw [bne,c171];rfl
  rw [ah c17] at H
  clear c17
  (try dsimp only)
  go_upto_region 5 with ((first|(refine rq rfl rfl (zT rfl rfl rfl Ei.out rfl (by simp [Value.oneCell'])) ?_)))
  obtain ⟨gu,hgu⟩:∃ x_,x_=w1.heap.size:=⟨_,rfl⟩
  have fG:Aside0 ((w1.alloc (.cells #[.int .u16 fr,.int .u16 tp,.int .u16 0,.slice (some ⟨gd,0,none⟩) l.length 16] 83)).heap[gu]?=some (.cells #[.int .u16 fr,.int .u16 tp,.int .u16 0,.slice (some ⟨gd,0,none⟩) l.length 16] 83 (0,0))):=⟨by rw [hgu];exact kW _ _⟩
  have Bq:=Aside0.mk (show w.heap.size<=gu by rw [hgu];exact below_size HB.out);rw [<- hgu];clear hgu;have hb_:=fA (Below.refl w1.heap.size w1) (.cells #[.int .u16 fr,.int .u16 tp,.int .u16 0,.slice (some ⟨gd,0,none⟩) l.length 16] 83);replace HB:=mB HB hb_;replace HXd:=mX HXd hb_;clear hb_;generalize (w1.alloc (.cells #[.int .u16 fr,.int .u16 tp,.int .u16 0,.slice (some ⟨gd,0,none⟩) l.length 16] 83))=w2 at fG HB HXd|-
  by_cases cf:Go.bits .and .u8 fl 64=0
  ·have cf1:(Go.bits .and .u8 fl 64==0)=true:=jf cf
   have cf2:(Go.bits .and .u8 fl 64 !=0)=false:=by rw [bne,cf1];rfl
   rw [ah cf] at H
   clear cf
   (try dsimp only)
   go_wp2_with (refine Kd.event_run rfl (rw_load rfl rfl fG.out Try.underlying83 rfl Ei.out) ?_)
   obtain ⟨s,hs0,H⟩:=dI H;have EY:=Aside0.mk (show Kd.C (Kd.int .u8) w2 (some ⟨gd,0,none⟩) l.length l by rw [YE.out];exact qH HXd.out rfl Lm.out (by decide));refine (pO.calls k src dst fr tp 0 (some ⟨gd,0,none⟩) 16 l s _ EY.out HM2.out hs0).mono ?_;rintro e w3 ⟨rfl,hb⟩;clear hs0 EY;have hb_:=hb;replace HB:=mB HB hb_;replace HXd:=mX HXd hb_;replace fG:=mX fG hb_;clear hb_;clear hb
   (try dsimp only)
   go_upto_region 7 with (((refine rw_set rfl rfl (i:=2) (v:= .int .u16 s) (cs':= #[.int .u16 fr,.int .u16 tp,.int .u16 s,.slice (some ⟨gd,0,none⟩) l.length 16]) fG.out rfl ?hr_ ?_);(case hr_=>(have m_:=(blk_cell fG.out 2).trans (rfl:_=some (.int .u16 0:Value)));(have mf_:=blk_frozen fG.out 2);first|(go_simp;done)|(go_simp;rfl));intro w4 hs_ off_;have jJ:=Aside0.mk (Off.below off_ HB.out Bq.out);have vw:=Aside0.mk (Off.blk off_ HXd.out fG.out (by decide));clear HB HXd fG off_;have fG:=Aside0.mk hs_;clear hs_;have HB:=jJ;have HXd:=vw;clear jJ vw))
   go_wp2_with (refine Kd.event_run rfl (rw_load rfl rfl fG.out Try.underlying83 rfl Ei.out) ?_)
   obtain ⟨⟨b,be⟩,hb0,H⟩:=dI H;obtain rfl:=eF H;have EY:=Aside0.mk (show Kd.C (Kd.int .u8) w4 (some ⟨gd,0,none⟩) l.length l by rw [YE.out];exact qH HXd.out rfl Lm.out (by decide));refine (bU.calls fr tp s (some ⟨gd,0,none⟩) 16 l b be _ EY.out HM2.out hb0).mono ?_;rintro e w5 ⟨v_,rfl,ho,hb⟩;have UG:=Aside0.mk (Kd.R_lower ho (below_size HB.out));clear ho hb0 EY;have hb_:=hb;replace HB:=mB HB hb_;clear hb_;clear hb
   (try dsimp only)
   go_wp2
   (try simp only [Exit.inBlock,Exit.then])
   go_ret
   exact ⟨_,rfl,UG.out,HB.out⟩
  ·have cf1:(Go.bits .and .u8 fl 64==0)=false:=iM cf
   have cf2:(Go.bits .and .u8 fl 64 !=0)=true:=bne_iff_ne.2 cf;rw [aj cf] at H
   clear cf
   (try dsimp only)
   go_wp2_with (refine Kd.event_run rfl (rw_load rfl rfl fG.out Try.underlying83 rfl Ei.out) ?_)
   obtain ⟨⟨b,be⟩,hb0,H⟩:=dI H;obtain rfl:=eF H;have EY:=Aside0.mk (show Kd.C (Kd.int .u8) w2 (some ⟨gd,0,none⟩) l.length l by rw [YE.out];exact qH HXd.out rfl Lm.out (by decide));refine (bU.calls fr tp 0 (some ⟨gd,0,none⟩) 16 l b be _ EY.out HM2.out hb0).mono ?_;rintro e w5 ⟨v_,rfl,ho,hb⟩;have UG:=Aside0.mk (Kd.R_lower ho (below_size HB.out));clear ho hb0 EY;have hb_:=hb;replace HB:=mB HB hb_;clear hb_;clear hb
   (try dsimp only)
   go_wp2
   (try simp only [Exit.inBlock,Exit.then])
   go_ret
   exact ⟨_,rfl,UG.out,HB.out⟩
 ·have c171:(pr==17)=false:=iM c17
  have Au2:(pr !=17)=true:=bne_iff_ne.2 c17;rw [aj c17] at H
  clear c17
  by_cases c6:pr=6
  ·have c61:(pr==6)=true:=jf c6
   have c62:(pr !=6)=false:=by rw [bne,c61];rfl
   rw [ah c6] at H
   clear c6
   (try dsimp only)
   go_upto_region 11 with ((first|(refine rq rfl rfl (zT rfl rfl rfl qV.out rfl (by simp [Value.oneCell'])) ?_)))
   obtain ⟨gt,hgt⟩:∃ x_,x_=w1.heap.size:=⟨_,rfl⟩
   have Fq:Aside0 ((w1.alloc (.cells #[.int .u16 fr,.int .u16 tp,.int .u32 (n % 4294967296),.int .u32 0,.int .u8 (Go.bits .and .u8 fl 23),.int .u16 9,.int .u16 0,.int .u16 0,.slice none 0 0,.slice (some ⟨gd,0,none⟩) l.length 16] 137)).heap[gt]?=some (.cells #[.int .u16 fr,.int .u16 tp,.int .u32 (n % 4294967296),.int .u32 0,.int .u8 (Go.bits .and .u8 fl 23),.int .u16 9,.int .u16 0,.int .u16 0,.slice none 0 0,.slice (some ⟨gd,0,none⟩) l.length 16] 137 (0,0))):=⟨by rw [hgt];exact kW _ _⟩
   have AjA:=Aside0.mk (show w.heap.size<=gt by rw [hgt];exact below_size HB.out);rw [<- hgt];clear hgt;have hb_:=fA (Below.refl w1.heap.size w1) (.cells #[.int .u16 fr,.int .u16 tp,.int .u32 (n % 4294967296),.int .u32 0,.int .u8 (Go.bits .and .u8 fl 23),.int .u16 9,.int .u16 0,.int .u16 0,.slice none 0 0,.slice (some ⟨gd,0,none⟩) l.length 16] 137);replace HB:=mB HB hb_;replace HXd:=mX HXd hb_;clear hb_;generalize (w1.alloc (.cells #[.int .u16 fr,.int .u16 tp,.int .u32 (n % 4294967296),.int .u32 0,.int .u8 (Go.bits .and .u8 fl 23),.int .u16 9,.int .u16 0,.int .u16 0,.slice none 0 0,.slice (some ⟨gd,0,none⟩) l.length 16] 137))=w2 at Fq HB HXd|-
   by_cases co:Go.bits .and .u8 n 32=0
   ·have co1:(Go.bits .and .u8 n 32==0)=true:=jf co
    have co2:(Go.bits .and .u8 n 32 !=0)=false:=by rw [bne,co1];rfl
    rw [ah co] at H
    clear co
    (try dsimp only)
    go_wp2_with (refine Kd.event_run rfl (rw_load rfl rfl Fq.out Try.underlying137 rfl qV.out) ?_)
    obtain ⟨s,hs0,H⟩:=dI H;have EY:=Aside0.mk (show Kd.C (Kd.int .u8) w2 (some ⟨gd,0,none⟩) l.length l by rw [YE.out];exact qH HXd.out rfl Lm.out (by decide));have HCo:=Aside0.mk (Kd.JM (Kd.int .u8) w2);refine (kS.calls k src dst fr tp (n % 4294967296) 0 (Go.bits .and .u8 fl 23) 9 0 0 none 0 [] (some ⟨gd,0,none⟩) 16 l s _ HCo.out (by decide) EY.out HM2.out hs0).mono ?_;rintro e w7 ⟨rfl,hb⟩;clear hs0 EY HCo;have hb_:=hb;replace HB:=mB HB hb_;replace HXd:=mX HXd hb_;replace Fq:=mX Fq hb_;clear hb_;clear hb
    (try dsimp only)
    go_upto_region 14 with (((refine rw_set rfl rfl (i:=6) (v:= .int .u16 s) (cs':= #[.int .u16 fr,.int .u16 tp,.int .u32 (n % 4294967296),.int .u32 0,.int .u8 (Go.bits .and .u8 fl 23),.int .u16 9,.int .u16 s,.int .u16 0,.slice none 0 0,.slice (some ⟨gd,0,none⟩) l.length 16]) Fq.out rfl ?hr_ ?_);(case hr_=>(have m_:=(blk_cell Fq.out 6).trans (rfl:_=some (.int .u16 0:Value)));(have mf_:=blk_frozen Fq.out 6);first|(go_simp;done)|(go_simp;rfl));intro w8 hs_ off_;have jJ:=Aside0.mk (Off.below off_ HB.out AjA.out);have vw:=Aside0.mk (Off.blk off_ HXd.out Fq.out (by decide));clear HB HXd Fq off_;have Fq:=Aside0.mk hs_;clear hs_;have HB:=jJ;have HXd:=vw;clear jJ vw))
    go_wp2_with (refine Kd.event_run rfl (rw_load rfl rfl Fq.out Try.underlying137 rfl qV.out) ?_)
    have HCo:=Aside0.mk (Kd.JM (Kd.int .u8) w8);obtain ⟨⟨b,be⟩,hb0,H⟩:=dI H;obtain rfl:=eF H;have EY:=Aside0.mk (show Kd.C (Kd.int .u8) w8 (some ⟨gd,0,none⟩) l.length l by rw [YE.out];exact qH HXd.out rfl Lm.out (by decide));refine (ak.calls k fr tp (n % 4294967296) 0 (Go.bits .and .u8 fl 23) 9 s 0 none 0 [] (some ⟨gd,0,none⟩) 16 l b be _ HCo.out (by decide) EY.out HM2.out hb0).mono ?_;rintro e w9 ⟨v_,rfl,ho,hb⟩;have UG:=Aside0.mk (Kd.R_lower ho (below_size HB.out));clear ho hb0 EY;have hb_:=hb;replace HB:=mB HB hb_;clear hb_;clear hb
    (try dsimp only)
    go_wp2
    (try simp only [Exit.inBlock,Exit.then])
    go_ret
    exact ⟨_,rfl,UG.out,HB.out⟩
   ·have co1:(Go.bits .and .u8 n 32==0)=false:=iM co
    have co2:(Go.bits .and .u8 n 32 !=0)=true:=bne_iff_ne.2 co;rw [aj co] at H
    clear co
    (try dsimp only)
    go_upto_region 13 with (first|((with_reducible refine gate_dst (N:=64) rfl ?_);refine Y1 ?hg_ (cs:= #[.int .u8 1,.int .u8 1,.int .u8 1,.int .u8 0]) (t:=5) (n:=4) ?hr_ ?_;(case hg_=>rfl);(case hr_=>first|(go_simp;done)|(go_simp;rfl));intro go w5 AoF hgo SH;have HXo:=Aside0.mk AoF;clear AoF hgo;have hb_:=SH;replace HB:=mB HB hb_;replace HXd:=mX HXd hb_;replace Fq:=mX Fq hb_;clear hb_;clear SH)|((refine rw_set rfl rfl (i:=8) (v:= .slice (some ⟨go,0,none⟩) 4 4) (cs':= #[.int .u16 fr,.int .u16 tp,.int .u32 (n % 4294967296),.int .u32 0,.int .u8 (Go.bits .and .u8 fl 23),.int .u16 9,.int .u16 0,.int .u16 0,.slice (some ⟨go,0,none⟩) 4 4,.slice (some ⟨gd,0,none⟩) l.length 16]) Fq.out rfl ?hr_ ?_);(case hr_=>(have m_:=(blk_cell Fq.out 8).trans (rfl:_=some (.slice none 0 0:Value)));(have mf_:=blk_frozen Fq.out 8);first|(go_simp;done)|(go_simp;rfl));intro w6 hs_ off_;have jJ:=Aside0.mk (Off.below off_ HB.out AjA.out);have vw:=Aside0.mk (Off.blk off_ HXd.out Fq.out (by decide));have SI:=Aside0.mk (Off.blk off_ HXo.out Fq.out (by decide));clear HB HXd HXo Fq off_;have Fq:=Aside0.mk hs_;clear hs_;have HB:=jJ;have HXd:=vw;have HXo:=SI;clear jJ vw SI))
    go_wp2_with (refine Kd.event_run rfl (rw_load rfl rfl Fq.out Try.underlying137 rfl qV.out) ?_)
    obtain ⟨s,hs0,H⟩:=dI H;have EY:=Aside0.mk (show Kd.C (Kd.int .u8) w6 (some ⟨gd,0,none⟩) l.length l by rw [YE.out];exact qH HXd.out rfl Lm.out (by decide));have HCo:=Aside0.mk (qH (xs:=[1,1,1,0]) (m:=4) (w:=w6) HXo.out rfl (by decide) (by decide));refine (kS.calls k src dst fr tp (n % 4294967296) 0 (Go.bits .and .u8 fl 23) 9 0 0 (some ⟨go,0,none⟩) 4 [1,1,1,0] (some ⟨gd,0,none⟩) 16 l s _ HCo.out (by decide) EY.out HM2.out hs0).mono ?_;rintro e w7 ⟨rfl,hb⟩;clear hs0 EY HCo;have hb_:=hb;replace HB:=mB HB hb_;replace HXd:=mX HXd hb_;replace Fq:=mX Fq hb_;replace HXo:=mX HXo hb_;clear hb_;clear hb
    (try dsimp only)
    go_upto_region 14 with (((refine rw_set rfl rfl (i:=6) (v:= .int .u16 s) (cs':= #[.int .u16 fr,.int .u16 tp,.int .u32 (n % 4294967296),.int .u32 0,.int .u8 (Go.bits .and .u8 fl 23),.int .u16 9,.int .u16 s,.int .u16 0,.slice (some ⟨go,0,none⟩) 4 4,.slice (some ⟨gd,0,none⟩) l.length 16]) Fq.out rfl ?hr_ ?_);(case hr_=>(have m_:=(blk_cell Fq.out 6).trans (rfl:_=some (.int .u16 0:Value)));(have mf_:=blk_frozen Fq.out 6);first|(go_simp;done)|(go_simp;rfl));intro w8 hs_ off_;have jJ:=Aside0.mk (Off.below off_ HB.out AjA.out);have vw:=Aside0.mk (Off.blk off_ HXd.out Fq.out (by decide));have SI:=Aside0.mk (Off.blk off_ HXo.out Fq.out (by decide));clear HB HXd HXo Fq off_;have Fq:=Aside0.mk hs_;clear hs_;have HB:=jJ;have HXd:=vw;have HXo:=SI;clear jJ vw SI))
    go_wp2_with (refine Kd.event_run rfl (rw_load rfl rfl Fq.out Try.underlying137 rfl qV.out) ?_)
    have HCo:=Aside0.mk (qH (xs:=[1,1,1,0]) (m:=4) (w:=w8) HXo.out rfl (by decide) (by decide));obtain ⟨⟨b,be⟩,hb0,H⟩:=dI H;obtain rfl:=eF H;have EY:=Aside0.mk (show Kd.C (Kd.int .u8) w8 (some ⟨gd,0,none⟩) l.length l by rw [YE.out];exact qH HXd.out rfl Lm.out (by decide));refine (ak.calls k fr tp (n % 4294967296) 0 (Go.bits .and .u8 fl 23) 9 s 0 (some ⟨go,0,none⟩) 4 [1,1,1,0] (some ⟨gd,0,none⟩) 16 l b be _ HCo.out (by decide) EY.out HM2.out hb0).mono ?_;rintro e w9 ⟨v_,rfl,ho,hb⟩;have UG:=Aside0.mk (Kd.R_lower ho (below_size HB.out));clear ho hb0 EY;have hb_:=hb;replace HB:=mB HB hb_;clear hb_;clear hb
    (try dsimp only)
    go_wp2
    (try simp only [Exit.inBlock,Exit.then])
    go_ret
    exact ⟨_,rfl,UG.out,HB.out⟩
  ·have c61:(pr==6)=false:=iM c6
   have c62:(pr !=6)=true:=bne_iff_ne.2 c6;rw [aj c6] at H
   clear c6
   (try dsimp only)
   go_upto_region 17 with ((first|(refine rq rfl rfl (zT rfl rfl rfl ou.out rfl (by simp [Value.oneCell'])) ?_)))
   obtain ⟨gm,hgm⟩:∃ x_,x_=w1.heap.size:=⟨_,rfl⟩
   have oL:Aside0 ((w1.alloc (.cells #[.int .u8 8,.int .u8 0,.int .u16 0,.int .u32 (Go.bits .or .u32 (fr % 4294967296*65536 % 4294967296) (n % 4294967296)),.slice (some ⟨gd,0,none⟩) l.length 16] 101)).heap[gm]?=some (.cells #[.int .u8 8,.int .u8 0,.int .u16 0,.int .u32 (Go.bits .or .u32 (fr % 4294967296*65536 % 4294967296) (n % 4294967296)),.slice (some ⟨gd,0,none⟩) l.length 16] 101 (0,0))):=⟨by rw [hgm];exact kW _ _⟩
   have RJ:=Aside0.mk (show w.heap.size<=gm by rw [hgm];exact below_size HB.out);rw [<- hgm];clear hgm;have hb_:=fA (Below.refl w1.heap.size w1) (.cells #[.int .u8 8,.int .u8 0,.int .u16 0,.int .u32 (Go.bits .or .u32 (fr % 4294967296*65536 % 4294967296) (n % 4294967296)),.slice (some ⟨gd,0,none⟩) l.length 16] 101);replace HB:=mB HB hb_;replace HXd:=mX HXd hb_;clear hb_;generalize (w1.alloc (.cells #[.int .u8 8,.int .u8 0,.int .u16 0,.int .u32 (Go.bits .or .u32 (fr % 4294967296*65536 % 4294967296) (n % 4294967296)),.slice (some ⟨gd,0,none⟩) l.length 16] 101))=w2 at oL HB HXd|-
   by_cases ci:Go.bits .and .u8 fl 1=0
   ·have ci1:(Go.bits .and .u8 fl 1==0)=true:=jf ci
    have ci2:(Go.bits .and .u8 fl 1 !=0)=false:=by rw [bne,ci1];rfl
    rw [ah ci] at H
    clear ci
    (try dsimp only)
    go_wp2_with (refine Kd.event_run rfl (rw_load rfl rfl oL.out Try.underlying101 rfl ou.out) ?_)
    obtain ⟨s,hs0,H⟩:=dI H;have EY:=Aside0.mk (show Kd.C (Kd.int .u8) w2 (some ⟨gd,0,none⟩) l.length l by rw [YE.out];exact qH HXd.out rfl Lm.out (by decide));refine (jg.calls k 8 0 0 (Go.bits .or .u32 (fr % 4294967296*65536 % 4294967296) (n % 4294967296)) (some ⟨gd,0,none⟩) 16 l s _ EY.out HM2.out hs0).mono ?_;rintro e w7 ⟨rfl,hb⟩;clear hs0 EY;have hb_:=hb;replace HB:=mB HB hb_;replace HXd:=mX HXd hb_;replace oL:=mX oL hb_;clear hb_;clear hb
    (try dsimp only)
    go_upto_region 20 with (((refine rw_set rfl rfl (i:=2) (v:= .int .u16 s) (cs':= #[.int .u8 8,.int .u8 0,.int .u16 s,.int .u32 (Go.bits .or .u32 (fr % 4294967296*65536 % 4294967296) (n % 4294967296)),.slice (some ⟨gd,0,none⟩) l.length 16]) oL.out rfl ?hr_ ?_);(case hr_=>(have m_:=(blk_cell oL.out 2).trans (rfl:_=some (.int .u16 0:Value)));(have mf_:=blk_frozen oL.out 2);first|(go_simp;done)|(go_simp;rfl));intro w8 hs_ off_;have jJ:=Aside0.mk (Off.below off_ HB.out RJ.out);have vw:=Aside0.mk (Off.blk off_ HXd.out oL.out (by decide));clear HB HXd oL off_;have oL:=Aside0.mk hs_;clear hs_;have HB:=jJ;have HXd:=vw;clear jJ vw))
    go_wp2_with (refine Kd.event_run rfl (rw_load rfl rfl oL.out Try.underlying101 rfl ou.out) ?_)
    obtain ⟨⟨b,be⟩,hb0,H⟩:=dI H;obtain rfl:=eF H;have EY:=Aside0.mk (show Kd.C (Kd.int .u8) w8 (some ⟨gd,0,none⟩) l.length l by rw [YE.out];exact qH HXd.out rfl Lm.out (by decide));refine (bI.calls 8 0 s (Go.bits .or .u32 (fr % 4294967296*65536 % 4294967296) (n % 4294967296)) (some ⟨gd,0,none⟩) 16 l b be _ EY.out HM2.out hb0).mono ?_;rintro e w9 ⟨v_,rfl,ho,hb⟩;have UG:=Aside0.mk (Kd.R_lower ho (below_size HB.out));clear ho hb0 EY;have hb_:=hb;replace HB:=mB HB hb_;clear hb_;clear hb
    (try dsimp only)
    go_wp2
    (try simp only [Exit.inBlock,Exit.then])
    go_ret
    exact ⟨_,rfl,UG.out,HB.out⟩
   ·have ci1:(Go.bits .and .u8 fl 1==0)=false:=iM ci
    have ci2:(Go.bits .and .u8 fl 1 !=0)=true:=bne_iff_ne.2 ci;rw [aj ci] at H
    clear ci
    (try dsimp only)
    go_upto_region 19 with (((refine rw_set rfl rfl (i:=0) (v:= .int .u8 0) (cs':= #[.int .u8 0,.int .u8 0,.int .u16 0,.int .u32 (Go.bits .or .u32 (fr % 4294967296*65536 % 4294967296) (n % 4294967296)),.slice (some ⟨gd,0,none⟩) l.length 16]) oL.out rfl ?hr_ ?_);(case hr_=>(have m_:=(blk_cell oL.out 0).trans (rfl:_=some (.int .u8 8:Value)));(have mf_:=blk_frozen oL.out 0);first|(go_simp;done)|(go_simp;rfl));intro w6 hs_ off_;have jJ:=Aside0.mk (Off.below off_ HB.out RJ.out);have vw:=Aside0.mk (Off.blk off_ HXd.out oL.out (by decide));clear HB HXd oL off_;have oL:=Aside0.mk hs_;clear hs_;have HB:=jJ;have HXd:=vw;clear jJ vw))
    go_wp2_with (refine Kd.event_run rfl (rw_load rfl rfl oL.out Try.underlying101 rfl ou.out) ?_)
    obtain ⟨s,hs0,H⟩:=dI H;have EY:=Aside0.mk (show Kd.C (Kd.int .u8) w6 (some ⟨gd,0,none⟩) l.length l by rw [YE.out];exact qH HXd.out rfl Lm.out (by decide));refine (jg.calls k 0 0 0 (Go.bits .or .u32 (fr % 4294967296*65536 % 4294967296) (n % 4294967296)) (some ⟨gd,0,none⟩) 16 l s _ EY.out HM2.out hs0).mono ?_;rintro e w7 ⟨rfl,hb⟩;clear hs0 EY;have hb_:=hb;replace HB:=mB HB hb_;replace HXd:=mX HXd hb_;replace oL:=mX oL hb_;clear hb_;clear hb
    (try dsimp only)
    go_upto_region 20 with (((refine rw_set rfl rfl (i:=2) (v:= .int .u16 s) (cs':= #[.int .u8 0,.int .u8 0,.int .u16 s,.int .u32 (Go.bits .or .u32 (fr % 4294967296*65536 % 4294967296) (n % 4294967296)),.slice (some ⟨gd,0,none⟩) l.length 16]) oL.out rfl ?hr_ ?_);(case hr_=>(have m_:=(blk_cell oL.out 2).trans (rfl:_=some (.int .u16 0:Value)));(have mf_:=blk_frozen oL.out 2);first|(go_simp;done)|(go_simp;rfl));intro w8 hs_ off_;have jJ:=Aside0.mk (Off.below off_ HB.out RJ.out);have vw:=Aside0.mk (Off.blk off_ HXd.out oL.out (by decide));clear HB HXd oL off_;have oL:=Aside0.mk hs_;clear hs_;have HB:=jJ;have HXd:=vw;clear jJ vw))
    go_wp2_with (refine Kd.event_run rfl (rw_load rfl rfl oL.out Try.underlying101 rfl ou.out) ?_)
    obtain ⟨⟨b,be⟩,hb0,H⟩:=dI H;obtain rfl:=eF H;have EY:=Aside0.mk (show Kd.C (Kd.int .u8) w8 (some ⟨gd,0,none⟩) l.length l by rw [YE.out];exact qH HXd.out rfl Lm.out (by decide));refine (bI.calls 0 0 s (Go.bits .or .u32 (fr % 4294967296*65536 % 4294967296) (n % 4294967296)) (some ⟨gd,0,none⟩) 16 l b be _ EY.out HM2.out hb0).mono ?_;rintro e w9 ⟨v_,rfl,ho,hb⟩;have UG:=Aside0.mk (Kd.R_lower ho (below_size HB.out));clear ho hb0 EY;have hb_:=hb;replace HB:=mB HB hb_;clear hb_;clear hb
    (try dsimp only)
    go_wp2
    (try simp only [Exit.inBlock,Exit.then])
    go_ret
    exact ⟨_,rfl,UG.out,HB.out⟩
attribute [local go_sem] dV dW gI gJ dG dH dX dY
def aA.j0:Nat ->Bool ->Int ->Int ->Int ->Int ->Int ->Int ->Int ->Int ->List Int ->List Int ->Option (List Int×Int)
 |0,_,_,_,_,_,_,_,_,_,_,_=>none
 |k+1,x27,Ad9,Aea,Aeb,Aec,Aed,Aee,Aef,Aeg,GL,JD=>if x27=true then (some (([]:List Int),21)) else (if (JD.length:Int)>(wrap64 (65535 - (wrap64 (20+(GL.length:Int))))) then (some (([]:List Int),23)) else ((aY.f (([Go.bits .or .u8 64 ((wrap64 (Int.tdiv (wrap64 (20+(GL.length:Int))) 4)) % 256),Ad9]:List Int)) (IntKind.u16.wrap (wrap64 ((wrap64 (20+(GL.length:Int)))+(JD.length:Int))))).bind fun PO=>((aY.f PO Aec).bind fun H7=>((aY.f H7 (Go.bits .or .u16 (IntKind.u16.wrap ((IntKind.u16.wrap (Aed))*8192)) Aee)).bind fun Fv=>((some (([Aea,Aeb,0,0]:List Int):List Int)).bind fun Ar=>(if Fv.length+Ar.length<140737488355328 then ((dZ.f (Fv++Ar) Aef).bind fun Lp=>((dZ.f Lp Aeg).bind fun H8=>(if H8.length+GL.length<140737488355328 then ((some (H8++GL:List Int)).bind fun qF=>((kN.f k qF).bind fun zW=>(if 10<(qF.length:Int) then (if 11<(qF.length:Int) then ((some ((qF.set (10:Int).toNat ((zW / 256) % 256)).set (11:Int).toNat ((zW) % 256):List Int)).bind fun zX=>(if zX.length+JD.length<140737488355328 then (some ((zX++JD),0)) else (none))) else (none)) else (none)))) else (none)))) else (none)))))))
def aA.f (k:Nat) (aI:Int) (aV:Int) (aX:Int) (bn:Int) (eP:Int) (eX:Int) (fC:Int) (fD:Int) (bD:List Int) (dw:List Int):Option (List Int×Int):=if ((bD.length:Int) % 4)=0 then (if (bD.length:Int)>40 then (aA.j0 k true aI aV aX bn eP eX fC fD bD dw) else (if eP>7 then (aA.j0 k true aI aV aX bn eP eX fC fD bD dw) else (aA.j0 k (decide (eX>8191)) aI aV aX bn eP eX fC fD bD dw))) else (aA.j0 k true aI aV aX bn eP eX fC fD bD dw)
def aA.T7:Bool×List (List Nat×List Nat):=(true,[([],[]),([],[]),([],[]),([2],[2]),([3],[3]),([1,4],[1,4]),([5],[5]),([0,6],[0,6]),([],[]),([8],[8]),([7,9,7],[7,9]),([10,10,0,1,2,3,4,5,6,7,8,9,10],[0,10])])
def aA.B7:List Nat:=[0,0,0,4,12,30,62,127,0,256,1023,2047]
theorem aA.Zx:rtab .any (opsOf Try.f41 7)=aA.T7:=by kernel_rfl
theorem aA.QH:waitsOk aA.T7.2 aA.B7=true:=by kernel_rfl
def aA.T8:Bool×List (List Nat×List Nat):=(true,[([],[]),([],[]),([1],[1]),([2],[2]),([3],[3]),([],[]),([5],[5]),([4,6],[4,6]),([0,7],[0,7]),([],[]),([9],[9]),([],[]),([11],[11]),([10,12],[10,12]),([8,13,8],[8,13]),([14,14,0,1,2,3,4,5,6,7,8,9,10,11,12,13,14],[0,14])])
def aA.B8:List Nat:=[0,0,2,6,14,0,32,126,255,0,512,0,2048,7680,16383,32767]
theorem aA.MP:rtab .any (opsOf Try.f41 8)=aA.T8:=by kernel_rfl
theorem aA.EM:waitsOk aA.T8.2 aA.B8=true:=by kernel_rfl
def aA.T9:Bool×List (List Nat×List Nat):=(true,[([],[]),([],[]),([1],[1]),([0,2],[0,2]),([],[]),([4],[4]),([3,5,3],[3,5]),([],[]),([7],[7]),([6,8,6],[6,8]),([9,9,0,1,2,3,4,5,6,7,8,9],[0,9])])
def aA.B9:List Nat:=[0,0,2,7,0,16,63,0,128,511,1023]
theorem aA.Ajq:rtab .any (opsOf Try.f41 9)=aA.T9:=by kernel_rfl
theorem aA.Abf:waitsOk aA.T9.2 aA.B9=true:=by kernel_rfl
theorem aA.calls (k:Nat) (aI:Int) (aV:Int) (aX:Int) (bn:Int) (eP:Int) (eX:Int) (fC:Int) (fD:Int) (lX:Option Addr) (lY:Nat) (bD:List Int) (lZ:Option Addr) (l7:Nat) (dw:List Int) (r1:List Int) (r2:Int) (w:World) (zD:Kd.C (Kd.int .u8) w lX bD.length bD) (zF:bD.length<=lY) (zG:Kd.C (Kd.int .u8) w lZ dw.length dw) (zH:dw.length<=l7) (h:aA.f k aI aV aX bn eP eX fC fD bD dw=some (r1,r2)):
  Calls Try.prog 41 #[.agg #[.int .u8 aI,.int .u8 aV,.int .u8 aX,.int .u16 bn,.int .u8 eP,.int .u16 eX,.int .u32 fC,.int .u32 fD,.slice lX bD.length lY,.slice lZ dw.length l7]] w fun e w'=>∃ uP:Value,e= .returned (.tuple #[uP,.int .i64 r2]) /\ Kd.R (Kd.int .u8) 5 w' w.heap.size (fun _=>True) uP r1 /\ Below w.heap.size w w':=by
 have hu73:=Try.underlying73;have IA:=Aside0.mk zD;have Rn:=Aside0.mk zF;clear zD zF;have IB:=Aside0.mk zG;have Ro:=Aside0.mk zH;clear zG zH;have HB:=jy w;have H:(if ((bD.length:Int) % 4)=0 then (if (bD.length:Int)>40 then (aA.j0 k true aI aV aX bn eP eX fC fD bD dw) else (if eP>7 then (aA.j0 k true aI aV aX bn eP eX fC fD bD dw) else (aA.j0 k (decide (eX>8191)) aI aV aX bn eP eX fC fD bD dw))) else (aA.j0 k true aI aV aX bn eP eX fC fD bD dw))=some (r1,r2):=h;clear h;have HC2:=Aside0.mk H;clear H
 go_enter Try.func41,Try.ntmps41
 go_upto_region 1 with (first|((with_reducible refine gate_dst (N:=1) rfl ?_);(try (refine eH (by rfl) ?_;dsimp only));refine box_event ?hg (N:=1) ?hd (cs:= #[.int .u8 aI,.int .u8 aV,.int .u8 aX,.int .u16 bn,.int .u8 eP,.int .u16 eX,.int .u32 fC,.int .u32 fD,.slice lX bD.length lY,.slice lZ dw.length l7]) (t:=73) ?hr ?_;(case hd=>rfl);(case hg=>rfl);(case hr=>first|(go_simp;done)|(go_simp;rfl));intro iT hg w3 hbox hb;have ay:=Aside0.mk (ag (bz HB) hb);have aC:=Aside0.mk (hbox);have bg:=Aside0.mk ((by rw [hg];exact (below_size (bz HB)):w.heap.size<=iT));have dm:=Aside0.mk ((by rw [hg];exact (below_size (bz HB)):w.heap.size<=iT));clear HB;have HB:=ay;have aK:=aC;have AxI:=bg;have AxJ:=dm;clear ay aC bg dm;clear hb hbox hg))
 (try simp only [Act.put,List.setIfInBounds_toArray,List.set_cons_zero,List.set_cons_succ])
 go_cut [27] (fun v27 wc=>∃ (kq:Nat) (WM:Bool),v27= .bool WM /\ Aside0 (aA.j0 kq WM aI aV aX bn eP eX fC fD bD dw=some (r1,r2)) /\ Aside0 (kq<=k) /\ Aside0 (wc.heap[iT]?=some (.cells #[.int .u8 aI,.int .u8 aV,.int .u8 aX,.int .u16 bn,.int .u8 eP,.int .u16 eX,.int .u32 fC,.int .u32 fD,(.slice lX bD.length lY),(.slice lZ dw.length l7)] 73 (0,0))) /\ Aside0 (Below w.heap.size w wc))
 case first=>
  have H:=HC2.out;clear HC2
  by_cases c4:((bD.length:Int) % 4)=0
  ·rw [ah c4] at H
   have qE:(((bD.length:Int) % 4)==0)=true:=jf c4;have Eh:(((bD.length:Int) % 4) !=0)=false:=oM c4;clear c4
   (first|rw [qE]|(simp only [i64_w,i32_w];rw [qE])|skip)
   by_cases c5:(bD.length:Int)>40
   ·rw [ah c5] at H
    have qR:decide (40<(bD.length:Int))=true:=bJ c5;have wO:decide (40<bD.length)=true:=bJ (by omega);clear c5;have H':=Aside0.mk H;clear H;have VS:=xC aK.out;have VT:=blk_frozen aK.out
    go_wp2
    go_meet
    case rel=>exact ⟨_,(true),(by first|rfl|(simp;done)|(simp [*];done)),H',⟨by first|omega|exact Nat.le_refl _⟩,⟨kz aK⟩,⟨bz HB⟩⟩
   ·rw [aj c5] at H
    have qR:decide (40<(bD.length:Int))=false:=jC c5;have wO:decide (40<bD.length)=false:=jC (by omega);clear c5
    by_cases c7:eP>7
    ·rw [ah c7] at H
     have Fe:decide (7<eP)=true:=bJ c7;clear c7;have H':=Aside0.mk H;clear H;have Ark:=xC aK.out;have Arl:=blk_frozen aK.out
     go_wp2
     go_meet
     case rel=>exact ⟨_,(true),(by first|rfl|(simp;done)|(simp [*];done)),H',⟨by first|omega|exact Nat.le_refl _⟩,⟨kz aK⟩,⟨bz HB⟩⟩
    ·rw [aj c7] at H
     have Fe:decide (7<eP)=false:=jC c7;clear c7;have H':=Aside0.mk H;clear H;have Wh:=xC aK.out;have Wi:=blk_frozen aK.out
     go_wp2
     go_meet
     case rel=>exact ⟨_,(decide (eX>8191)),(by first|rfl|(simp;done)|(simp [*];done)),H',⟨by first|omega|exact Nat.le_refl _⟩,⟨kz aK⟩,⟨bz HB⟩⟩
  ·rw [aj c4] at H
   have qE:(((bD.length:Int) % 4)==0)=false:=iM c4;have Eh:(((bD.length:Int) % 4) !=0)=true:=pq c4
   (first|rw [qE]|(simp only [i64_w,i32_w];rw [qE])|skip)
   have H':=Aside0.mk H;clear H;have AaH:=xC aK.out;have AaI:=blk_frozen aK.out
   go_wp2
   go_meet
   case rel=>exact ⟨_,(true),(by first|rfl|(simp;done)|(simp [*];done)),H',⟨by first|omega|exact Nat.le_refl _⟩,⟨kz aK⟩,⟨bz HB⟩⟩
 case rest=>
  clear HC2;obtain ⟨kq,WM,rfl,HA,HJ1,aK,HB⟩:=hcut
  cases kq with
  |zero=>exact absurd HA.out (by simp [aA.j0])
  |succ XD=>
   have H:=HA.out;clear HA;simp only [aA.j0] at H
   by_cases c11:WM=true
   ·subst c11
    have H1:(some (([]:List Int),21))=some (r1,r2):=by rw [ah rfl] at H;exact H
    clear H;have H:=H1;clear H1;simp only [Option.some.injEq,Prod.mk.injEq] at H
    obtain ⟨rfl,rfl⟩:=H
    go_wp2
    go_ret2
    exact ⟨_,by first|rfl|(simp [ae,af]<;>rfl)|(simp [*,ae,af]<;>rfl),by first|exact Kd.bV _ _ _ _ _|exact Kd.lV _ _ _ _ _|exact Kd.lW _ _ _ _ _|exact Kd.lT _ _ _ _ _|exact Kd.lU _ _ _ _ _,bz HB⟩
   ·replace c11:=FT c11
    subst c11
    have H1:(if (dw.length:Int)>(wrap64 (65535 - (wrap64 (20+(bD.length:Int))))) then (some (([]:List Int),23)) else ((aY.f (([Go.bits .or .u8 64 ((wrap64 (Int.tdiv (wrap64 (20+(bD.length:Int))) 4)) % 256),aI]:List Int)) (IntKind.u16.wrap (wrap64 ((wrap64 (20+(bD.length:Int)))+(dw.length:Int))))).bind fun PO=>((aY.f PO bn).bind fun H7=>((aY.f H7 (Go.bits .or .u16 (IntKind.u16.wrap ((IntKind.u16.wrap (eP))*8192)) eX)).bind fun Fv=>((some (([aV,aX,0,0]:List Int):List Int)).bind fun Ar=>(if Fv.length+Ar.length<140737488355328 then ((dZ.f (Fv++Ar) fC).bind fun Lp=>((dZ.f Lp fD).bind fun H8=>(if H8.length+bD.length<140737488355328 then ((some (H8++bD:List Int)).bind fun qF=>((kN.f XD qF).bind fun zW=>(if 10<(qF.length:Int) then (if 11<(qF.length:Int) then ((some ((qF.set (10:Int).toNat ((zW / 256) % 256)).set (11:Int).toNat ((zW) % 256):List Int)).bind fun zX=>(if zX.length+dw.length<140737488355328 then (some ((zX++dw),0)) else (none))) else (none)) else (none)))) else (none)))) else (none)))))))=some (r1,r2):=by rw [aj (show ¬ (false=true) by decide)] at H;exact H
    clear H;have H:=H1;clear H1
    by_cases c12:(dw.length:Int)>(wrap64 (65535 - (wrap64 (20+(bD.length:Int)))))
    ·rw [ah c12] at H
     have Nr:decide ((wrap64 (65535 - (wrap64 (20+(bD.length:Int)))))<(dw.length:Int))=true:=bJ c12;clear c12;simp only [Option.some.injEq,Prod.mk.injEq] at H
     obtain ⟨rfl,rfl⟩:=H;have Abm:=xC aK.out;have Abn:=blk_frozen aK.out
     go_wp2
     go_ret2
     exact ⟨_,by first|rfl|(simp [ae,af]<;>rfl)|(simp [*,ae,af]<;>rfl),by first|exact Kd.bV _ _ _ _ _|exact Kd.lV _ _ _ _ _|exact Kd.lW _ _ _ _ _|exact Kd.lT _ _ _ _ _|exact Kd.lU _ _ _ _ _,bz HB⟩
    ·rw [aj c12] at H
     have Nr:decide ((wrap64 (65535 - (wrap64 (20+(bD.length:Int)))))<(dw.length:Int))=false:=jC c12;clear c12;obtain ⟨Aeh,Abo⟩:∃ y_:List Int,y_=(([Go.bits .or .u8 64 ((wrap64 (Int.tdiv (wrap64 (20+(bD.length:Int))) 4)) % 256),aI]:List Int)):=⟨_,rfl⟩
     rw [<- Abo] at H
     have Af6:=Aside0.mk Abo;clear Abo;replace H:=dM H;obtain ⟨PO,JX,H⟩:=H
     (try dsimp -simprocs only at H)
     have A14:=Aside0.mk JX;clear JX;replace H:=dM H;obtain ⟨H7,Ld,H⟩:=H
     (try dsimp -simprocs only at H)
     have A15:=Aside0.mk Ld;clear Ld;replace H:=dM H;obtain ⟨Fv,CU,H⟩:=H
     (try dsimp -simprocs only at H)
     have YC:=Aside0.mk CU;clear CU;obtain ⟨Ar,SK⟩:∃ y_:List Int,y_=(([aV,aX,0,0]:List Int)):=⟨_,rfl⟩
     replace H:(if Fv.length+Ar.length<140737488355328 then ((dZ.f (Fv++Ar) fC).bind fun Lp=>((dZ.f Lp fD).bind fun H8=>(if H8.length+bD.length<140737488355328 then ((some (H8++bD:List Int)).bind fun qF=>((kN.f XD qF).bind fun zW=>(if 10<(qF.length:Int) then (if 11<(qF.length:Int) then ((some ((qF.set (10:Int).toNat ((zW / 256) % 256)).set (11:Int).toNat ((zW) % 256):List Int)).bind fun zX=>(if zX.length+dw.length<140737488355328 then (some ((zX++dw),0)) else (none))) else (none)) else (none)))) else (none)))) else (none))=some (r1,r2):=by first|(rw [SK];with_reducible exact H)|(have oO:=(bG _ _).symm.trans H;rw [SK];with_reducible exact oO)|(have oO:=(bG _ _).symm.trans H;with_reducible exact oO)|with_reducible exact H|(rw [SK];exact H)|exact H
     have WN:=Aside0.mk SK;clear SK
     by_cases c17:Fv.length+Ar.length<140737488355328
     ·rw [ah c17] at H
      have AoG:=Aside0.mk c17;clear c17;obtain ⟨Aei,Abp⟩:∃ y_:List Int,y_=(Fv++Ar):=⟨_,rfl⟩
      rw [<- Abp] at H
      have AoH:=Aside0.mk Abp;clear Abp;replace H:=dM H;obtain ⟨Lp,CV,H⟩:=H
      (try dsimp -simprocs only at H)
      have Xo:=Aside0.mk CV;clear CV;replace H:=dM H;obtain ⟨H8,J7,H⟩:=H
      (try dsimp -simprocs only at H)
      have A19:=Aside0.mk J7;clear J7
      by_cases c20:H8.length+bD.length<140737488355328
      ·rw [ah c20] at H
       have Aab:=Aside0.mk c20;clear c20;obtain ⟨qF,SL⟩:∃ y_:List Int,y_=(H8++bD):=⟨_,rfl⟩
       replace H:((kN.f XD qF).bind fun zW=>(if 10<(qF.length:Int) then (if 11<(qF.length:Int) then ((some ((qF.set (10:Int).toNat ((zW / 256) % 256)).set (11:Int).toNat ((zW) % 256):List Int)).bind fun zX=>(if zX.length+dw.length<140737488355328 then (some ((zX++dw),0)) else (none))) else (none)) else (none)))=some (r1,r2):=by first|(rw [SL];with_reducible exact H)|(have oO:=(bG _ _).symm.trans H;rw [SL];with_reducible exact oO)|(have oO:=(bG _ _).symm.trans H;with_reducible exact oO)|with_reducible exact H|(rw [SL];exact H)|exact H
       have AoI:=Aside0.mk SL;clear SL;replace H:=dM H;obtain ⟨zW,SN,H⟩:=H;replace H:(if 10<(qF.length:Int) then (if 11<(qF.length:Int) then ((some ((qF.set (10:Int).toNat ((zW / 256) % 256)).set (11:Int).toNat ((zW) % 256):List Int)).bind fun zX=>(if zX.length+dw.length<140737488355328 then (some ((zX++dw),0)) else (none))) else (none)) else (none))=some (r1,r2):=H;have A21:=Aside0.mk SN;clear SN
       by_cases Qx:10<(qF.length:Int)
       ·rw [ah Qx] at H
        have Zd:decide (10<(qF.length:Int))=true:=bJ Qx;have Alx:decide (10<qF.length)=true:=bJ (by omega);clear Qx;obtain ⟨AoJ,Abq⟩:∃ y_:List Int,y_=(qF.set (10:Int).toNat ((zW / 256) % 256)):=⟨_,rfl⟩
        rw [<- Abq] at H
        have AoK:=Aside0.mk Abq;clear Abq
        by_cases c24:11<(qF.length:Int)
        ·rw [ah c24] at H
         have Ae5:decide (11<(qF.length:Int))=true:=bJ c24;have Al9:decide (11<qF.length)=true:=bJ (by omega);clear c24;obtain ⟨zX,SQ⟩:∃ y_:List Int,y_=(AoJ.set (11:Int).toNat ((zW) % 256)):=⟨_,rfl⟩
         replace H:(if zX.length+dw.length<140737488355328 then (some ((zX++dw),0)) else (none))=some (r1,r2):=by first|(rw [SQ];with_reducible exact H)|(have oO:=(bG _ _).symm.trans H;rw [SQ];with_reducible exact oO)|(have oO:=(bG _ _).symm.trans H;with_reducible exact oO)|with_reducible exact H|(rw [SQ];exact H)|exact H
         have AoL:=Aside0.mk SQ;clear SQ
         by_cases c26:zX.length+dw.length<140737488355328
         ·rw [ah c26] at H
          have AoM:=Aside0.mk c26;clear c26;obtain ⟨Au3,SS⟩:∃ y_:List Int,y_=(zX++dw):=⟨_,rfl⟩
          replace H:(some (Au3,0))=some (r1,r2):=by first|(rw [SS];with_reducible exact H)|(have oO:=(bG _ _).symm.trans H;rw [SS];with_reducible exact oO)|(have oO:=(bG _ _).symm.trans H;with_reducible exact oO)|with_reducible exact H|(rw [SS];exact H)|exact H
          have AoN:=Aside0.mk SS;clear SS;simp only [Option.some.injEq,Prod.mk.injEq] at H
          obtain ⟨rfl,rfl⟩:=H;have Aag:=xC aK.out;have Aah:=blk_frozen aK.out
          try go_wp2_with (first|((with_reducible refine gate_dst (N:=44) rfl ?_);(try (refine eH (by rfl) ?_;dsimp only));refine Kd.wI (Kd.int .u8) _ 5 ?hg (N:=44) ?hd (xs:=([Go.bits .or .u8 64 ((wrap64 (Int.tdiv (wrap64 (20+(bD.length:Int))) 4)) % 256),aI]:List Int)) (inner:=[.int .u8 (Go.bits .or .u8 64 ((wrap64 (Int.tdiv (wrap64 (20+(bD.length:Int))) 4)) % 256)),.int .u8 aI]) (ok:=fun _=>True) (xw:=fun _=>True) ?hr ?hp (fun _ hk=>hk) trivial (Below.refl _ _) (Nat.le_refl _) (by simp) ?_;(case hd=>rfl);(case hg=>rfl);(case hr=>first|(go_simp;done)|(go_simp;simp only [IntKind.wrap_u8,IntKind.wrap_u16,IntKind.wrap_u32];done)|(go_simp;rfl));(case hp=>exact (dn.one (show Kd.M (Kd.int .u8) _ _ _ (Go.bits .or .u8 64 ((wrap64 (Int.tdiv (wrap64 (20+(bD.length:Int))) 4)) % 256)) [.int .u8 (Go.bits .or .u8 64 ((wrap64 (Int.tdiv (wrap64 (20+(bD.length:Int))) 4)) % 256))] from rfl) (dn.one (show Kd.M (Kd.int .u8) _ _ _ aI [.int .u8 aI] from rfl) (dn.none _ _))));intro Az5 w28 Gu hb hg_ kP;clear hg_ kP;(first|rw [<- Af6.out] at Gu|(simp only [Int.reduceToNat] at Gu;rw [<- Af6.out] at Gu));have ay:=Aside0.mk (Kd.R_lower Gu (below_size (bz HB)));have aC:=Aside0.mk (aZ (kz aK) hb);have bg:=Aside0.mk (ag (bz HB) hb);clear aK;clear HB;have IG:=ay;have aK:=aC;have HB:=bg;clear ay aC bg;clear hb Gu))
          have ay:=Aside0.mk (Kd.iq IG.out);have aC:=Aside0.mk (az aK.out);have bg:=Aside0.mk (below_drew1 HB.out);clear IG;clear aK;clear HB;have IG:=ay;have aK:=aC;have HB:=bg;clear ay aC bg;obtain ⟨Ez,ED,Ac6⟩:=Kd.dN IG.out
          (first|subst Ac6|(injection Ac6 with rF xE rG;have xG:=rF.symm;have xH:=rG.symm;clear rF xE rG;subst xG;subst xH))
          refine start_ (n:=12) (S:=fun w'=>w'.cell? ⟨iT,0,none⟩=some (.int .u8 aI) /\ w'.cell? ⟨iT,1,none⟩=some (.int .u8 aV) /\ w'.cell? ⟨iT,2,none⟩=some (.int .u8 aX) /\ w'.cell? ⟨iT,3,none⟩=some (.int .u16 bn) /\ w'.cell? ⟨iT,4,none⟩=some (.int .u8 eP) /\ w'.cell? ⟨iT,5,none⟩=some (.int .u16 eX) /\ w'.cell? ⟨iT,6,none⟩=some (.int .u32 fC) /\ w'.cell? ⟨iT,7,none⟩=some (.int .u32 fD) /\ w'.cell? ⟨iT,8,none⟩=some (.slice lX bD.length lY) /\ w'.cell? ⟨iT,9,none⟩=some (.slice lZ dw.length l7)) (ds:=[]) #[false,false,false,false,false,false,false,false,false,false,false,false] (by kernel_rfl) rfl rfl ⟨cz aK.out 0 rfl,cz aK.out 1 rfl,cz aK.out 2 rfl,cz aK.out 3 rfl,cz aK.out 4 rfl,cz aK.out 5 rfl,cz aK.out 6 rfl,cz aK.out 7 rfl,cz aK.out 8 rfl,cz aK.out 9 rfl⟩ (fun hHeld=> ?_);refine with_tabW aA.Zx aA.QH (fun HT_ HW_=> ?_)
          generalize w28.drew=XE at IG aK HB hHeld|-
          refine pz 0 45 HT_ ?_;refine pz 1 46 HT_ ?_;refine pz 2 47 HT_ ?_;refine pz 8 53 HT_ ?_;refine take_ (i:=3) (N:=some 48) (v:= ?_) (a':= ?_) #[true,true,true,true,false,false,false,false,true,false,false,false] rfl rfl (take_ofW HT_.out HW_.out (by kernel_rfl)) (fun _ _ _ h=>h) (Or.inl ⟨by rfl, ?_⟩) hHeld ?_ ?_
          rotate_left
          ·rintro w' ⟨s0,s1,s2,s3,s4,s5,s6,s7,s8,s9⟩
           go_simp
           with_reducible rfl
          rotate_left
          ·simp only [vF]
           rfl
          refine pz 4 49 HT_ ?_;refine pz 5 50 HT_ ?_;refine pz 6 51 HT_ ?_;refine take_ (i:=9) (N:=some 54) (v:= ?_) (a':= ?_) #[true,true,true,true,true,true,true,false,true,true,false,false] rfl rfl (take_ofW HT_.out HW_.out (by kernel_rfl)) (fun _ _ _ h=>h) (Or.inl ⟨by rfl, ?_⟩) hHeld ?_ ?_
          rotate_left
          ·rintro w' ⟨s0,s1,s2,s3,s4,s5,s6,s7,s8,s9⟩
           go_simp
           with_reducible rfl
          rotate_left
          ·simp only [vF]
           rfl
          refine oz 7 (some 52) HT_ (fun K hK=> ?_);refine gG Try.func83 #[.slice Ez Aeh.length ED,.int .u16 (IntKind.u16.wrap (wrap64 ((wrap64 (20+(bD.length:Int)))+(dw.length:Int))))] ?_
          with_reducible refine (aY.calls (fun k_=>some k_=(.slice Ez Aeh.length ED:Value).ownBlock) (.slice Ez Aeh.length ED) Aeh (IntKind.u16.wrap (wrap64 ((wrap64 (20+(bD.length:Int)))+(dw.length:Int)))) PO w _ ?au ?ax A14.out).mono ?_
          (case au=>exact bz HB)
          (case ax=>exact Kd.oP rfl IG.out)
          rintro e w32 ⟨Az6,rfl,ho0,hb,hkp⟩;refine ⟨_,rfl, ?_⟩;have ay:=Aside0.mk (lC (kz aK) hkp (fun hs_=>(fun e_=>(Kd.rV IG.out aK.out (by decide)) e_) hs_));have aC:=Aside0.mk (Kd.R_mono (ok':=fun k_=>True) ho0 (fun k_ wF=>trivial));have bg:=Aside0.mk (hb);clear aK;clear HB;clear IG;have aK:=ay;have WO:=aC;have HB:=bg;clear ay aC bg
          (try clear hb)
          (try clear hkp)
          (try clear ho0)
          obtain ⟨Hw,Gv,MS⟩:=Kd.dN WO.out
          (first|subst MS|(injection MS with rF xE rG;have xG:=rF.symm;have xH:=rG.symm;clear rF xE rG;subst xG;subst xH))
          refine hK.out _ _ ⟨cz aK.out 0 rfl,cz aK.out 1 rfl,cz aK.out 2 rfl,cz aK.out 3 rfl,cz aK.out 4 rfl,cz aK.out 5 rfl,cz aK.out 6 rfl,cz aK.out 7 rfl,cz aK.out 8 rfl,cz aK.out 9 rfl⟩ (fun hHeld=> ?_);clear hK K;refine nz 52 ?_;refine oz 10 (some 55) HT_ (fun K hK=> ?_);refine gG Try.func83 #[.slice Hw PO.length Gv,.int .u16 bn] ?_
          with_reducible refine (aY.calls (fun k_=>some k_=(.slice Hw PO.length Gv:Value).ownBlock) (.slice Hw PO.length Gv) PO bn H7 w _ ?au ?ax A15.out).mono ?_
          (case au=>exact bz HB)
          (case ax=>exact Kd.oP rfl WO.out)
          rintro e Ur ⟨Az7,rfl,ho0,hb,hkp⟩;refine ⟨_,rfl, ?_⟩;have ay:=Aside0.mk (lC (kz aK) hkp (fun hs_=>(fun e_=>(Kd.rV WO.out aK.out (by decide)) e_) hs_));have aC:=Aside0.mk (Kd.R_mono (ok':=fun k_=>True) ho0 (fun k_ wF=>trivial));have bg:=Aside0.mk (hb);clear aK;clear HB;clear WO;have aK:=ay;have yt:=aC;have HB:=bg;clear ay aC bg
          (try clear hb)
          (try clear hkp)
          (try clear ho0)
          refine hK.out _ _ ⟨cz aK.out 0 rfl,cz aK.out 1 rfl,cz aK.out 2 rfl,cz aK.out 3 rfl,cz aK.out 4 rfl,cz aK.out 5 rfl,cz aK.out 6 rfl,cz aK.out 7 rfl,cz aK.out 8 rfl,cz aK.out 9 rfl⟩ (fun hHeld=> ?_);clear hK K;refine nz 55 ?_;refine pz 11 5 HT_ ?_;refine dz HT_ ?_;obtain ⟨XW,XX,Au4⟩:=Kd.dN yt.out;subst Au4
          try go_wp2
          have ay:=Aside0.mk (Kd.iq yt.out);have aC:=Aside0.mk (az aK.out);have bg:=Aside0.mk (below_drew1 HB.out);clear yt;clear aK;clear HB;have yt:=ay;have aK:=aC;have HB:=bg;clear ay aC bg
          refine start_ (n:=16) (S:=fun w'=>w'.cell? ⟨iT,0,none⟩=some (.int .u8 aI) /\ w'.cell? ⟨iT,1,none⟩=some (.int .u8 aV) /\ w'.cell? ⟨iT,2,none⟩=some (.int .u8 aX) /\ w'.cell? ⟨iT,3,none⟩=some (.int .u16 bn) /\ w'.cell? ⟨iT,4,none⟩=some (.int .u8 eP) /\ w'.cell? ⟨iT,5,none⟩=some (.int .u16 eX) /\ w'.cell? ⟨iT,6,none⟩=some (.int .u32 fC) /\ w'.cell? ⟨iT,7,none⟩=some (.int .u32 fD) /\ w'.cell? ⟨iT,8,none⟩=some (.slice lX bD.length lY) /\ w'.cell? ⟨iT,9,none⟩=some (.slice lZ dw.length l7)) (ds:=[]) #[false,false,false,false,false,false,false,false,false,false,false,false,false,false,false,false] (by kernel_rfl) rfl rfl ⟨cz aK.out 0 rfl,cz aK.out 1 rfl,cz aK.out 2 rfl,cz aK.out 3 rfl,cz aK.out 4 rfl,cz aK.out 5 rfl,cz aK.out 6 rfl,cz aK.out 7 rfl,cz aK.out 8 rfl,cz aK.out 9 rfl⟩ (fun hHeld=> ?_);refine with_tabW aA.MP aA.EM (fun HT_ HW_=> ?_)
          generalize Ur.drew=w36 at yt aK HB hHeld|-
          refine pz 0 56 HT_ ?_;refine pz 1 57 HT_ ?_;refine pz 5 61 HT_ ?_;refine pz 9 65 HT_ ?_;refine pz 11 67 HT_ ?_;refine take_ (i:=2) (N:=some 58) (v:= ?_) (a':= ?_) #[true,true,true,false,false,true,false,false,false,true,false,true,false,false,false,false] rfl rfl (take_ofW HT_.out HW_.out (by kernel_rfl)) (fun _ _ _ h=>h) (Or.inl ⟨by rfl, ?_⟩) hHeld ?_ ?_
          rotate_left
          ·rintro w' ⟨s0,s1,s2,s3,s4,s5,s6,s7,s8,s9⟩
           go_simp
           with_reducible rfl
          rotate_left
          ·simp only [vF]
           rfl
          refine pz 3 59 HT_ ?_;refine pz 4 60 HT_ ?_;refine take_ (i:=6) (N:=some 62) (v:= ?_) (a':= ?_) #[true,true,true,true,true,true,true,false,false,true,false,true,false,false,false,false] rfl rfl (take_ofW HT_.out HW_.out (by kernel_rfl)) (fun _ _ _ h=>h) (Or.inl ⟨by rfl, ?_⟩) hHeld ?_ ?_
          rotate_left
          ·rintro w' ⟨s0,s1,s2,s3,s4,s5,s6,s7,s8,s9⟩
           go_simp
           with_reducible rfl
          rotate_left
          ·simp only [vF]
           rfl
          refine pz 7 63 HT_ ?_;refine take_ (i:=10) (N:=some 66) (v:= ?_) (a':= ?_) #[true,true,true,true,true,true,true,true,false,true,true,true,false,false,false,false] rfl rfl (take_ofW HT_.out HW_.out (by kernel_rfl)) (fun _ _ _ h=>h) (Or.inl ⟨by rfl, ?_⟩) hHeld ?_ ?_
          rotate_left
          ·rintro w' ⟨s0,s1,s2,s3,s4,s5,s6,s7,s8,s9⟩
           go_simp
           with_reducible rfl
          rotate_left
          ·simp only [vF]
           rfl
          refine take_ (i:=12) (N:=some 68) (v:= ?_) (a':= ?_) #[true,true,true,true,true,true,true,true,false,true,true,true,true,false,false,false] rfl rfl (take_ofW HT_.out HW_.out (by kernel_rfl)) (fun _ _ _ h=>h) (Or.inl ⟨by rfl, ?_⟩) hHeld ?_ ?_
          rotate_left
          ·rintro w' ⟨s0,s1,s2,s3,s4,s5,s6,s7,s8,s9⟩
           go_simp
           with_reducible rfl
          rotate_left
          ·simp only [vF]
           rfl
          refine Ak8 (σ:=Value×Value) 2 #[true,true,true,true,true,true,true,true,true,true,true,true,true,true,false,false] (fun s_=>[(64,s_.1),(69,s_.2)]) (fun s_ w'=>(w'.cell? ⟨iT,0,none⟩=some (.int .u8 aI) /\ w'.cell? ⟨iT,1,none⟩=some (.int .u8 aV) /\ w'.cell? ⟨iT,2,none⟩=some (.int .u8 aX) /\ w'.cell? ⟨iT,3,none⟩=some (.int .u16 bn) /\ w'.cell? ⟨iT,4,none⟩=some (.int .u8 eP) /\ w'.cell? ⟨iT,5,none⟩=some (.int .u16 eX) /\ w'.cell? ⟨iT,6,none⟩=some (.int .u32 fC) /\ w'.cell? ⟨iT,7,none⟩=some (.int .u32 fD) /\ w'.cell? ⟨iT,8,none⟩=some (.slice lX bD.length lY) /\ w'.cell? ⟨iT,9,none⟩=some (.slice lZ dw.length l7)) /\ (Kd.R (Kd.int .u8) 5 w' w.heap.size (fun k_=>some k_≠(s_.2:Value).ownBlock) s_.1 Fv) /\ (Kd.R (Kd.int .u8) 5 w' w.heap.size (fun k_=>some k_≠(s_.1:Value).ownBlock) s_.2 Ar) /\ (w'.heap[iT]?=some (.cells #[.int .u8 aI,.int .u8 aV,.int .u8 aX,.int .u16 bn,.int .u8 eP,.int .u16 eX,.int .u32 fC,.int .u32 fD,.slice lX bD.length lY,.slice lZ dw.length l7] 73 (0,0))) /\ (Below w.heap.size w w')) ?_ ?_
          rotate_left
          ·intro Af7
           refine AsD (i:=8) (j:=13) (Ni:=some 64) (Nj:=some 69) #[true,true,true,true,true,true,true,true,true,true,true,true,true,false,false,false] #[true,true,true,true,true,true,true,true,false,true,true,true,true,true,false,false] rfl rfl rfl rfl (AgU HT_.out (by kernel_rfl)) (by decide) (by decide) (fun K hK=> ?_) (fun K hK=> ?_)
           ·skip
            refine gG Try.func83 #[.slice XW H7.length XX,.int .u16 (Go.bits .or .u16 (IntKind.u16.wrap ((IntKind.u16.wrap (eP))*8192)) eX)] ?_
            with_reducible refine (aY.calls (fun k_=>some k_=(.slice XW H7.length XX:Value).ownBlock) (.slice XW H7.length XX) H7 (Go.bits .or .u16 (IntKind.u16.wrap ((IntKind.u16.wrap (eP))*8192)) eX) Fv w _ ?au ?ax YC.out).mono ?_
            (case au=>exact bz HB)
            (case ax=>exact Kd.oP rfl yt.out)
            rintro e w37 ⟨SV,rfl,ho0,hb,hkp⟩;refine ⟨_,rfl, ?_⟩;have ay:=Aside0.mk (lC (kz aK) hkp (fun hs_=>(fun e_=>(Kd.rV yt.out aK.out (by decide)) e_) hs_));have aC:=Aside0.mk (Kd.R_mono (ok':=fun k_=>True) ho0 (fun k_ wF=>trivial));have bg:=Aside0.mk (hb);clear aK;clear HB;clear yt;have aK:=ay;have DD:=aC;have HB:=bg;clear ay aC bg
            (try clear hb)
            (try clear hkp)
            (try clear ho0)
            refine hK.out _ _ ⟨cz aK.out 0 rfl,cz aK.out 1 rfl,cz aK.out 2 rfl,cz aK.out 3 rfl,cz aK.out 4 rfl,cz aK.out 5 rfl,cz aK.out 6 rfl,cz aK.out 7 rfl,cz aK.out 8 rfl,cz aK.out 9 rfl⟩ (fun hHeld=> ?_);clear hK K;refine nz 64 ?_;refine oz 13 (some 69) HT_ (fun K hK=> ?_)
            refine Kd.wM (Kd.int .u8) _ 5 ?hg (N:=69) ?hd (xs:=([aV,aX,0,0]:List Int)) (inner:=[.int .u8 aV,.int .u8 aX,.int .u8 0,.int .u8 0]) (ok:=fun _=>True) (xw:=fun _=>True) ?hr ?hp (fun _ hk=>hk) trivial (Below.refl _ _) (Nat.le_refl _) (by simp) ?_;(case hd=>rfl);(case hg=>rfl);(case hr=>first|(go_simp;done)|(go_simp;rfl));(case hp=>exact (dn.one (show Kd.M (Kd.int .u8) _ _ _ aV [.int .u8 aV] from rfl) (dn.one (show Kd.M (Kd.int .u8) _ _ _ aX [.int .u8 aX] from rfl) (dn.one (show Kd.M (Kd.int .u8) _ _ _ 0 [.int .u8 0] from rfl) (dn.one (show Kd.M (Kd.int .u8) _ _ _ 0 [.int .u8 0] from rfl) (dn.none _ _))))));intro UX w38 XY hb hg_ kP;clear hg_ kP
            (first|rw [<- WN.out] at XY|(simp only [Int.reduceToNat] at XY;rw [<- WN.out] at XY))
            have ay:=Aside0.mk (Kd.rD (Kd.rz DD) (Kd.nU XY) hb);have aC:=Aside0.mk (Kd.R_lower (Kd.xy XY (Kd.uB (Kd.rz DD))) (below_size (bz HB)));have bg:=Aside0.mk (aZ (kz aK) hb);have dm:=Aside0.mk (ag (bz HB) hb);clear DD;clear aK;clear HB;have DD:=ay;have kD:=aC;have aK:=bg;have HB:=dm;clear ay aC bg dm;clear hb XY;refine hK.out _ _ ⟨cz aK.out 0 rfl,cz aK.out 1 rfl,cz aK.out 2 rfl,cz aK.out 3 rfl,cz aK.out 4 rfl,cz aK.out 5 rfl,cz aK.out 6 rfl,cz aK.out 7 rfl,cz aK.out 8 rfl,cz aK.out 9 rfl⟩ (fun hHeld=> ?_);clear hK K;refine nz 69 ?_
            exact norm_ (by simp only [G9,Act.put,List.setIfInBounds_toArray,List.set_cons_zero,List.set_cons_succ]) (Af7 (SV,UX) _ ⟨hHeld,(by (with_reducible repeat (first|apply Kd.ik|apply Kd.gV|apply Kd.iq));exact Kd.R_mono DD.out (fun _ hk=>hk.2)),(by (with_reducible repeat (first|apply Kd.ik|apply Kd.gV|apply Kd.iq));exact Kd.R_mono kD.out (fun _ hk=>hk.2)),(kz aK),(bz HB)⟩)
           ·skip
            refine Kd.wM (Kd.int .u8) _ 5 ?hg (N:=69) ?hd (xs:=([aV,aX,0,0]:List Int)) (inner:=[.int .u8 aV,.int .u8 aX,.int .u8 0,.int .u8 0]) (ok:=fun _=>True) (xw:=fun _=>True) ?hr ?hp (fun _ hk=>hk) trivial (Below.refl _ _) (Nat.le_refl _) (by simp) ?_;(case hd=>rfl);(case hg=>rfl);(case hr=>first|(go_simp;done)|(go_simp;rfl));(case hp=>exact (dn.one (show Kd.M (Kd.int .u8) _ _ _ aV [.int .u8 aV] from rfl) (dn.one (show Kd.M (Kd.int .u8) _ _ _ aX [.int .u8 aX] from rfl) (dn.one (show Kd.M (Kd.int .u8) _ _ _ 0 [.int .u8 0] from rfl) (dn.one (show Kd.M (Kd.int .u8) _ _ _ 0 [.int .u8 0] from rfl) (dn.none _ _))))));intro UX w37 XZ hb hg_ kP;clear hg_ kP
            (first|rw [<- WN.out] at XZ|(simp only [Int.reduceToNat] at XZ;rw [<- WN.out] at XZ))
            have ay:=Aside0.mk (Kd.rD (Kd.rz yt) (Kd.nU XZ) hb);have aC:=Aside0.mk (Kd.R_lower (Kd.xy XZ (Kd.uB (Kd.rz yt))) (below_size (bz HB)));have bg:=Aside0.mk (aZ (kz aK) hb);have dm:=Aside0.mk (ag (bz HB) hb);clear yt;clear aK;clear HB;have yt:=ay;have kD:=aC;have aK:=bg;have HB:=dm;clear ay aC bg dm;clear hb XZ;refine hK.out _ _ ⟨cz aK.out 0 rfl,cz aK.out 1 rfl,cz aK.out 2 rfl,cz aK.out 3 rfl,cz aK.out 4 rfl,cz aK.out 5 rfl,cz aK.out 6 rfl,cz aK.out 7 rfl,cz aK.out 8 rfl,cz aK.out 9 rfl⟩ (fun hHeld=> ?_);clear hK K;refine nz 69 ?_;refine oz 8 (some 64) HT_ (fun K hK=> ?_);refine gG Try.func83 #[.slice XW H7.length XX,.int .u16 (Go.bits .or .u16 (IntKind.u16.wrap ((IntKind.u16.wrap (eP))*8192)) eX)] ?_
            with_reducible refine (aY.calls (fun k_=>some k_=(.slice XW H7.length XX:Value).ownBlock) (.slice XW H7.length XX) H7 (Go.bits .or .u16 (IntKind.u16.wrap ((IntKind.u16.wrap (eP))*8192)) eX) Fv w _ ?au ?ax YC.out).mono ?_
            (case au=>exact bz HB)
            (case ax=>exact Kd.oP rfl yt.out)
            rintro e w39 ⟨SV,rfl,ho0,hb,hkp⟩;refine ⟨_,rfl, ?_⟩;have ay:=Aside0.mk (lC (kz aK) hkp (fun hs_=>(fun e_=>(Kd.rV yt.out aK.out (by decide)) e_) hs_));have aC:=Aside0.mk (Kd.R_mono (ok':=fun k_=>some k_≠(SV:Value).ownBlock) (Kd.DT (kD.out) hkp (fun k_ wF hs_=>(wF.2) hs_)) (fun k_ wF=>fun e_=>Or.elim (ho0.1 k_ e_.symm) (fun hs_=>wF.2.1 hs_) (fun Le=>Nat.not_le.2 wF.2.2 Le)));have bg:=Aside0.mk (Kd.R_mono (ok':=fun k_=>some k_≠(UX:Value).ownBlock) ho0 (fun k_ wF=>Or.elim wF (fun hs_=>fun e_=>(((kD.out).1 k_ e_.symm).2) hs_) (fun Le=>(Kd.fresh' (Kd.uB (Kd.rz kD)) k_ Le))));have dm:=Aside0.mk (hb);clear aK;clear kD;clear HB;clear yt;have aK:=ay;have kD:=aC;have DD:=bg;have HB:=dm;clear ay aC bg dm
            (try clear hb)
            (try clear hkp)
            (try clear ho0)
            refine hK.out _ _ ⟨cz aK.out 0 rfl,cz aK.out 1 rfl,cz aK.out 2 rfl,cz aK.out 3 rfl,cz aK.out 4 rfl,cz aK.out 5 rfl,cz aK.out 6 rfl,cz aK.out 7 rfl,cz aK.out 8 rfl,cz aK.out 9 rfl⟩ (fun hHeld=> ?_);clear hK K;refine nz 64 ?_;exact norm_ (by simp only [G9,Act.put,List.setIfInBounds_toArray,List.set_cons_zero,List.set_cons_succ]) (Af7 (SV,UX) _ ⟨hHeld,(Kd.rz DD),(Kd.rz kD),(kz aK),(bz HB)⟩)
          rintro ⟨SV,UX⟩ J8 ⟨hS_,h0_,h1_,h2_,h3_⟩;have ay:Aside0 (Kd.R (Kd.int .u8) 5 J8 w.heap.size (fun k_=>some k_≠(UX:Value).ownBlock) SV Fv):=⟨h0_⟩
          have aC:Aside0 (Kd.R (Kd.int .u8) 5 J8 w.heap.size (fun k_=>some k_≠(SV:Value).ownBlock) UX Ar):=⟨h1_⟩
          have bg:Aside0 (J8.heap[iT]?=some (.cells #[.int .u8 aI,.int .u8 aV,.int .u8 aX,.int .u16 bn,.int .u8 eP,.int .u16 eX,.int .u32 fC,.int .u32 fD,.slice lX bD.length lY,.slice lZ dw.length l7] 73 (0,0))):=⟨h2_⟩
          have dm:Aside0 (Below w.heap.size w J8):=⟨h3_⟩
          clear yt;clear aK;clear HB;clear h0_ h1_ h2_ h3_;have DD:=ay;have kD:=aC;have aK:=bg;have HB:=dm;clear ay aC bg dm;have hHeld:J8.cell? ⟨iT,0,none⟩=some (.int .u8 aI) /\ J8.cell? ⟨iT,1,none⟩=some (.int .u8 aV) /\ J8.cell? ⟨iT,2,none⟩=some (.int .u8 aX) /\ J8.cell? ⟨iT,3,none⟩=some (.int .u16 bn) /\ J8.cell? ⟨iT,4,none⟩=some (.int .u8 eP) /\ J8.cell? ⟨iT,5,none⟩=some (.int .u16 eX) /\ J8.cell? ⟨iT,6,none⟩=some (.int .u32 fC) /\ J8.cell? ⟨iT,7,none⟩=some (.int .u32 fD) /\ J8.cell? ⟨iT,8,none⟩=some (.slice lX bD.length lY) /\ J8.cell? ⟨iT,9,none⟩=some (.slice lZ dw.length l7):=hS_;obtain ⟨IM,IP,ZM⟩:=Kd.dN kD.out
          (first|subst ZM|(injection ZM with rF xE rG;have xG:=rF.symm;have xH:=rG.symm;clear rF xE rG;subst xG;subst xH))
          refine norm_ (a':= ?_) ?_ ?_
          rotate_left
          ·simp only [G9,Act.put,List.setIfInBounds_toArray,List.set_cons_zero,List.set_cons_succ]
           rfl
          refine oz 14 (some 70) HT_ (fun K hK=> ?_);refine Kd.mD (Kd.int .u8) (w0:=w) w.heap.size (by rfl) (.tmp 64) (.tmp 69) 23 5 (.int .u8 0) 1 rfl Try.underlying23 info5 rfl (by decide) (by omega) SV Fv Ar _ _ _ (fun k_=>some k_≠(.slice IM Ar.length IP:Value).ownBlock) (fun _=>False) rfl rfl ?aO ?aR (fun _ _ h=>h) (fun _ h=>h.elim) ?aF ?aB ?aS ?aL ?_
          (case aR=>repeat (first|exact (Kd.R_reads' kD.out).2.2|(with_reducible refine Kd.iL ?_ _)|(with_reducible refine Kd.iD ?_ _)|(with_reducible refine Kd.jE ?_)))
          (case aB=>exact bz HB)
          (case aF=>exact (fun k_ hk=>Kd.fresh' (Kd.uB (Kd.rz kD)) k_ hk))
          (case aO=>exact (Kd.rz DD))
          (case aS=>exact (below_size (bz HB)))
          (case aL=>have:=AoG.out;omega)
          intro Az9 w41 ho hb hg hat;rw [<- AoH.out] at ho
          have ay:=Aside0.mk (jK (kz aK) hg (Kd.rV DD.out aK.out (by decide)));have aC:=Aside0.mk (Kd.tX (ok:=(fun _=>True)) (by (with_reducible repeat (first|apply Kd.ik|apply Kd.gV|apply Kd.iq));exact Kd.R_mono kD.out (fun _ hk=>⟨trivial,hk⟩)) hg hat);have bg:=Aside0.mk (hb);have dm:=Aside0.mk (ho);clear aK;clear kD;clear HB;clear DD;have aK:=ay;have kD:=aC;have HB:=bg;have II:=dm;clear ay aC bg dm;clear ho hb hg hat;refine hK.out _ _ ⟨cz aK.out 0 rfl,cz aK.out 1 rfl,cz aK.out 2 rfl,cz aK.out 3 rfl,cz aK.out 4 rfl,cz aK.out 5 rfl,cz aK.out 6 rfl,cz aK.out 7 rfl,cz aK.out 8 rfl,cz aK.out 9 rfl⟩ (fun hHeld=> ?_);clear hK K;refine nz 70 ?_;refine pz 15 5 HT_ ?_;refine dz HT_ ?_
          try go_wp2
          have ay:=Aside0.mk (Kd.iq kD.out);have aC:=Aside0.mk (Kd.iq II.out);have bg:=Aside0.mk (az aK.out);have dm:=Aside0.mk (below_drew1 HB.out);clear kD;clear II;clear aK;clear HB;have kD:=ay;have II:=aC;have aK:=bg;have HB:=dm;clear ay aC bg dm;obtain ⟨AjB,AjC,AoO⟩:=Kd.dN II.out
          (first|subst AoO|(injection AoO with rF xE rG;have xG:=rF.symm;have xH:=rG.symm;clear rF xE rG;subst xG;subst xH))
          refine start_ (n:=11) (S:=fun w'=>w'.cell? ⟨iT,0,none⟩=some (.int .u8 aI) /\ w'.cell? ⟨iT,1,none⟩=some (.int .u8 aV) /\ w'.cell? ⟨iT,2,none⟩=some (.int .u8 aX) /\ w'.cell? ⟨iT,3,none⟩=some (.int .u16 bn) /\ w'.cell? ⟨iT,4,none⟩=some (.int .u8 eP) /\ w'.cell? ⟨iT,5,none⟩=some (.int .u16 eX) /\ w'.cell? ⟨iT,6,none⟩=some (.int .u32 fC) /\ w'.cell? ⟨iT,7,none⟩=some (.int .u32 fD) /\ w'.cell? ⟨iT,8,none⟩=some (.slice lX bD.length lY) /\ w'.cell? ⟨iT,9,none⟩=some (.slice lZ dw.length l7)) (ds:=[]) #[false,false,false,false,false,false,false,false,false,false,false] (by kernel_rfl) rfl rfl ⟨cz aK.out 0 rfl,cz aK.out 1 rfl,cz aK.out 2 rfl,cz aK.out 3 rfl,cz aK.out 4 rfl,cz aK.out 5 rfl,cz aK.out 6 rfl,cz aK.out 7 rfl,cz aK.out 8 rfl,cz aK.out 9 rfl⟩ (fun hHeld=> ?_);refine with_tabW aA.Ajq aA.Abf (fun HT_ HW_=> ?_)
          generalize w41.drew=w43 at kD II aK HB hHeld|-
          refine pz 0 71 HT_ ?_;refine pz 1 72 HT_ ?_;refine pz 4 75 HT_ ?_;refine pz 7 78 HT_ ?_;refine take_ (i:=2) (N:=some 73) (v:= ?_) (a':= ?_) #[true,true,true,false,true,false,false,true,false,false,false] rfl rfl (take_ofW HT_.out HW_.out (by kernel_rfl)) (fun _ _ _ h=>h) (Or.inl ⟨by rfl, ?_⟩) hHeld ?_ ?_
          rotate_left
          ·rintro w' ⟨s0,s1,s2,s3,s4,s5,s6,s7,s8,s9⟩
           go_simp
           with_reducible rfl
          rotate_left
          ·simp only [vF]
           rfl
          refine take_ (i:=5) (N:=some 76) (v:= ?_) (a':= ?_) #[true,true,true,false,true,true,false,true,false,false,false] rfl rfl (take_ofW HT_.out HW_.out (by kernel_rfl)) (fun _ _ _ h=>h) (Or.inl ⟨by rfl, ?_⟩) hHeld ?_ ?_
          rotate_left
          ·rintro w' ⟨s0,s1,s2,s3,s4,s5,s6,s7,s8,s9⟩
           go_simp
           with_reducible rfl
          rotate_left
          ·simp only [vF]
           rfl
          refine take_ (i:=8) (N:=some 79) (v:= ?_) (a':= ?_) #[true,true,true,false,true,true,false,true,true,false,false] rfl rfl (take_ofW HT_.out HW_.out (by kernel_rfl)) (fun _ _ _ h=>h) (Or.inl ⟨by rfl, ?_⟩) hHeld ?_ ?_
          rotate_left
          ·rintro w' ⟨s0,s1,s2,s3,s4,s5,s6,s7,s8,s9⟩
           go_simp
           with_reducible rfl
          rotate_left
          ·simp only [vF]
           rfl
          refine oz 3 (some 74) HT_ (fun K hK=> ?_);refine gG Try.func84 #[.slice AjB Aei.length AjC,.int .u32 fC] ?_
          with_reducible refine (dZ.calls (fun k_=>some k_=(.slice AjB Aei.length AjC:Value).ownBlock) (.slice AjB Aei.length AjC) Aei fC Lp w _ ?au ?ax Xo.out).mono ?_
          (case au=>exact bz HB)
          (case ax=>exact Kd.oP rfl II.out)
          rintro e w45 ⟨Au5,rfl,ho0,hb,hkp⟩;refine ⟨_,rfl, ?_⟩;have ay:=Aside0.mk (lC (kz aK) hkp (fun hs_=>(fun e_=>(Kd.rV II.out aK.out (by decide)) e_) hs_));have aC:=Aside0.mk (Kd.R_mono (ok':=fun k_=>some k_≠(Au5:Value).ownBlock) (Kd.DT (kD.out) hkp (fun k_ wF hs_=>(wF.2) hs_)) (fun k_ wF=>fun e_=>Or.elim (ho0.1 k_ e_.symm) (fun hs_=>wF.2.1 hs_) (fun Le=>Nat.not_le.2 wF.2.2 Le)));have bg:=Aside0.mk (Kd.R_mono (ok':=fun k_=>some k_≠(.slice IM Ar.length IP:Value).ownBlock) ho0 (fun k_ wF=>Or.elim wF (fun hs_=>fun e_=>(((kD.out).1 k_ e_.symm).2) hs_) (fun Le=>(Kd.fresh' (Kd.uB (Kd.rz kD)) k_ Le))));have dm:=Aside0.mk (hb);clear aK;clear kD;clear HB;clear II;have aK:=ay;have kD:=aC;have WQ:=bg;have HB:=dm;clear ay aC bg dm
          (try clear hb)
          (try clear hkp)
          (try clear ho0)
          obtain ⟨AjD,AjE,AoP⟩:=Kd.dN WQ.out
          (first|subst AoP|(injection AoP with rF xE rG;have xG:=rF.symm;have xH:=rG.symm;clear rF xE rG;subst xG;subst xH))
          refine hK.out _ _ ⟨cz aK.out 0 rfl,cz aK.out 1 rfl,cz aK.out 2 rfl,cz aK.out 3 rfl,cz aK.out 4 rfl,cz aK.out 5 rfl,cz aK.out 6 rfl,cz aK.out 7 rfl,cz aK.out 8 rfl,cz aK.out 9 rfl⟩ (fun hHeld=> ?_);clear hK K;refine nz 74 ?_;refine oz 6 (some 77) HT_ (fun K hK=> ?_);refine gG Try.func84 #[.slice AjD Lp.length AjE,.int .u32 fD] ?_
          with_reducible refine (dZ.calls (fun k_=>some k_=(.slice AjD Lp.length AjE:Value).ownBlock) (.slice AjD Lp.length AjE) Lp fD H8 w _ ?au ?ax A19.out).mono ?_
          (case au=>exact bz HB)
          (case ax=>exact Kd.oP rfl WQ.out)
          rintro e w47 ⟨AoQ,rfl,ho0,hb,hkp⟩;refine ⟨_,rfl, ?_⟩;have ay:=Aside0.mk (lC (kz aK) hkp (fun hs_=>(fun e_=>(Kd.rV WQ.out aK.out (by decide)) e_) hs_));have aC:=Aside0.mk (Kd.R_mono (ok':=fun k_=>some k_≠(AoQ:Value).ownBlock) (Kd.DT (kD.out) hkp (fun k_ wF hs_=>(wF) hs_)) (fun k_ wF=>fun e_=>Or.elim (ho0.1 k_ e_.symm) (fun hs_=>wF.2.1 hs_) (fun Le=>Nat.not_le.2 wF.2.2 Le)));have bg:=Aside0.mk (Kd.R_mono (ok':=fun k_=>some k_≠(.slice IM Ar.length IP:Value).ownBlock) ho0 (fun k_ wF=>Or.elim wF (fun hs_=>fun e_=>(((kD.out).1 k_ e_.symm)) hs_) (fun Le=>(Kd.fresh' (Kd.uB (Kd.rz kD)) k_ Le))));have dm:=Aside0.mk (hb);clear aK;clear kD;clear HB;clear WQ;have aK:=ay;have kD:=aC;have Abr:=bg;have HB:=dm;clear ay aC bg dm
          (try clear hb)
          (try clear hkp)
          (try clear ho0)
          refine hK.out _ _ ⟨cz aK.out 0 rfl,cz aK.out 1 rfl,cz aK.out 2 rfl,cz aK.out 3 rfl,cz aK.out 4 rfl,cz aK.out 5 rfl,cz aK.out 6 rfl,cz aK.out 7 rfl,cz aK.out 8 rfl,cz aK.out 9 rfl⟩ (fun hHeld=> ?_);clear hK K;refine nz 77 ?_;refine oz 9 (some 80) HT_ (fun K hK=> ?_);refine Kd.mD (Kd.int .u8) (w0:=w) w.heap.size (by rfl) (.tmp 77) (.tmp 79) 23 5 (.int .u8 0) 1 rfl Try.underlying23 info5 rfl (by decide) (by omega) AoQ H8 bD _ _ _ (fun k_=>some k_≠(.slice IM Ar.length IP:Value).ownBlock) (fun _=>False) rfl rfl ?aO ?aR (fun _ _ h=>h) (fun _ h=>h.elim) ?aF ?aB ?aS ?aL ?_
          (case aR=>exact Kd.aJ IA.out (bz HB))
          (case aB=>exact bz HB)
          (case aF=>exact (fun k_ hk=>Kd.fresh' (Kd.uB (Kd.rz kD)) k_ hk))
          (case aO=>exact (Kd.rz Abr))
          (case aS=>exact (below_size (bz HB)))
          (case aL=>have:=Aab.out;omega)
          intro AAa w48 ho hb hg hat;rw [<- AoI.out] at ho
          have ay:=Aside0.mk (jK (kz aK) hg (Kd.rV Abr.out aK.out (by decide)));have aC:=Aside0.mk (Kd.tX (ok:=(fun _=>True)) (by (with_reducible repeat (first|apply Kd.ik|apply Kd.gV|apply Kd.iq));exact Kd.R_mono kD.out (fun _ hk=>⟨trivial,hk⟩)) hg hat);have bg:=Aside0.mk (hb);have dm:=Aside0.mk (ho);clear aK;clear kD;clear HB;clear Abr;have aK:=ay;have kD:=aC;have HB:=bg;have uw:=dm;clear ay aC bg dm;clear ho hb hg hat;refine hK.out _ _ ⟨cz aK.out 0 rfl,cz aK.out 1 rfl,cz aK.out 2 rfl,cz aK.out 3 rfl,cz aK.out 4 rfl,cz aK.out 5 rfl,cz aK.out 6 rfl,cz aK.out 7 rfl,cz aK.out 8 rfl,cz aK.out 9 rfl⟩ (fun hHeld=> ?_);clear hK K;refine nz 80 ?_;refine pz 10 5 HT_ ?_;refine dz HT_ ?_;obtain ⟨Au6,SX,Au7⟩:=Kd.dN uw.out
          subst Au7
          try go_wp2_with (first|((with_reducible refine ai (f:=85) rfl ?_);refine gL 82 Try.func85 #[.slice Au6 qF.length SX] ?_;(with_reducible refine (kN.calls XD _ _ qF zW _ ?au ?ax A21.out).mono ?_);(case au=>repeat (first|exact (Kd.R_reads' uw.out).2.2|(with_reducible refine Kd.iL ?_ _)|(with_reducible refine Kd.iD ?_ _)|(with_reducible refine Kd.jE ?_)));(case ax=>exact (Kd.R_reads' uw.out).2.1);rintro e w50 ⟨rfl,hb⟩;refine ⟨_,rfl, ?_⟩;have ay:=Aside0.mk (Kd.jd (Kd.rz kD) hb);have aC:=Aside0.mk (Kd.jd (Kd.rz uw) hb);have bg:=Aside0.mk (aZ (kz aK) hb);have dm:=Aside0.mk (ag (bz HB) hb);clear kD;clear uw;clear aK;clear HB;have kD:=ay;have uw:=aC;have aK:=bg;have HB:=dm;clear ay aC bg dm;(try clear hb);(try clear hb2);(try clear hk);(try clear hi);have p23:0<=(10:Int):=(by omega);have q23:(10:Int)<((qF.length:Int):Int):=je;have AAb:(10<qF.length)=True:=eq_true (by omega);obtain ⟨Lr,AdM,Abh,AoR,Au9,AAc,AoS⟩:=Kd.R_form uw.out (by omega);(first|cases Abh|(injection Abh with ea_ en_ ec_;(first|subst ea_|(injection ea_ with ea_;subst ea_));subst ec_;clear en_));have AoT:=Aside0.mk AoR;have AAd:=Aside0.mk AoS;clear AoR Au9 AoS;obtain ⟨Abs,Abt⟩:=Kd.qZ 0 uw.out (10:Int) p23 q23;(try rw [show ((10:Int)).toNat=10 from rfl] at Abs);(try simp only [Nat.reduceMul,Nat.zero_mul,Nat.zero_add,Nat.reduceAdd] at Abs);(try rw [show ((10:Int)).toNat=10 from rfl] at Abt);(try simp only [Nat.reduceMul,Nat.zero_mul,Nat.zero_add,Nat.reduceAdd] at Abt);replace p23:=eq_true p23;replace q23:=eq_true q23;obtain ⟨Af8,Af9⟩:=Kd.qZ 0 uw.out (10:Int) (by omega) je;(try simp only [Int.reduceToNat,Int.toNat_zero,Int.toNat_ofNat,Nat.reduceMul,Nat.zero_mul,Nat.zero_add] at Af8 Af9);(try rw [show ((10:Int)).toNat=10 from rfl] at Af8);(try rw [show ((10:Int)).toNat=10 from rfl] at Af9);have AjF:=Kd.G7 uw.out (10:Int) ((zW / 256) % 256))|((with_reducible refine AB (t:=5) (p:=90) rfl ?_);refine zf (t:=5) (p:=90) (v:= ?Ava) (w1:=(w50.setCell ⟨Lr,(10:Int).toNat,none⟩ (.int .u8 ((zW / 256) % 256)))) ?hg ?ho ?hn ?hr ?_;(case ho=>rfl);(case hg=>rfl);(case hn=>rfl);(case hr=>first|(go_simp;done)|(go_simp;rfl));intro w52 hw;have hg:w50.grownBy w52 (some Lr):=(by rw [hw];exact AjF.2);have hp_:Kd.R (Kd.int .u8) 5 w52 w.heap.size (fun k_=>some k_≠(.slice IM Ar.length IP:Value).ownBlock) (.slice (some ⟨Lr,0,none⟩) qF.length SX) AoJ:=(by rw [hw,AoK.out];exact AjF.1);clear AjF;have ay:=Aside0.mk (jK (kz aK) hg (Kd.rV uw.out aK.out (by decide)));have aC:=Aside0.mk (Kd.tX (v:=(.slice (some ⟨Lr,0,none⟩) qF.length SX)) (v1:=(.slice (some ⟨Lr,0,none⟩) qF.length SX)) (ok:=(fun _=>True)) (Kd.rz kD) hg (.inl rfl));have bg:=Aside0.mk (hp_);have dm:=Aside0.mk ((by rw [hw];exact zZ (HB.out) AoT.out:Below w.heap.size w w52));clear aK;clear kD;clear uw;clear HB;have aK:=ay;have kD:=aC;have uw:=bg;have HB:=dm;clear ay aC bg dm;clear hg hw hp_;have p25:0<=(11:Int):=(by omega);have q25:(11:Int)<((qF.length:Int):Int):=je;have AAe:(11<qF.length)=True:=eq_true (by omega);obtain ⟨Abu,Abv⟩:=Kd.qZ 0 uw.out (11:Int) p25 q25;(try rw [show ((11:Int)).toNat=11 from rfl] at Abu);(try simp only [Nat.reduceMul,Nat.zero_mul,Nat.zero_add,Nat.reduceAdd] at Abu);(try rw [show ((11:Int)).toNat=11 from rfl] at Abv);(try simp only [Nat.reduceMul,Nat.zero_mul,Nat.zero_add,Nat.reduceAdd] at Abv);replace p25:=eq_true p25;replace q25:=eq_true q25;obtain ⟨Aga,Agb⟩:=Kd.qZ 0 uw.out (11:Int) (by omega) je;(try simp only [Int.reduceToNat,Int.toNat_zero,Int.toNat_ofNat,Nat.reduceMul,Nat.zero_mul,Nat.zero_add] at Aga Agb);(try rw [show ((11:Int)).toNat=11 from rfl] at Aga);(try rw [show ((11:Int)).toNat=11 from rfl] at Agb);have AjG:=Kd.G7 uw.out (11:Int) ((zW) % 256))|((with_reducible refine AB (t:=5) (p:=91) rfl ?_);refine zf (t:=5) (p:=91) (v:= ?Avc) (w1:=(w52.setCell ⟨Lr,(11:Int).toNat,none⟩ (.int .u8 ((zW) % 256)))) ?hg ?ho ?hn ?hr ?_;(case ho=>rfl);(case hg=>rfl);(case hn=>rfl);(case hr=>first|(go_simp;done)|(go_simp;rfl));intro X0 hw;have hg:w52.grownBy X0 (some Lr):=(by rw [hw];exact AjG.2);have hp_:Kd.R (Kd.int .u8) 5 X0 w.heap.size (fun k_=>some k_≠(.slice IM Ar.length IP:Value).ownBlock) (.slice (some ⟨Lr,0,none⟩) qF.length SX) zX:=(by rw [hw,AoL.out];exact AjG.1);clear AjG;have ay:=Aside0.mk (jK (kz aK) hg (Kd.rV uw.out aK.out (by decide)));have aC:=Aside0.mk (Kd.tX (v:=(.slice (some ⟨Lr,0,none⟩) qF.length SX)) (v1:=(.slice (some ⟨Lr,0,none⟩) qF.length SX)) (ok:=(fun _=>True)) (Kd.rz kD) hg (.inl rfl));have bg:=Aside0.mk (hp_);have dm:=Aside0.mk ((by rw [hw];exact zZ (HB.out) AoT.out:Below w.heap.size w X0));clear aK;clear kD;clear uw;clear HB;have aK:=ay;have kD:=aC;have uw:=bg;have HB:=dm;clear ay aC bg dm;clear hg hw hp_;have Arn:X0.cell? ⟨iT,0,none⟩=some (.int .u8 aI):=cz aK.out 0 rfl;have Aro:X0.cell? ⟨iT,1,none⟩=some (.int .u8 aV):=cz aK.out 1 rfl;have Arp:X0.cell? ⟨iT,2,none⟩=some (.int .u8 aX):=cz aK.out 2 rfl;have Arq:X0.cell? ⟨iT,3,none⟩=some (.int .u16 bn):=cz aK.out 3 rfl;have Arr:X0.cell? ⟨iT,4,none⟩=some (.int .u8 eP):=cz aK.out 4 rfl;have Ars:X0.cell? ⟨iT,5,none⟩=some (.int .u16 eX):=cz aK.out 5 rfl;have Art:X0.cell? ⟨iT,6,none⟩=some (.int .u32 fC):=cz aK.out 6 rfl;have Aru:X0.cell? ⟨iT,7,none⟩=some (.int .u32 fD):=cz aK.out 7 rfl;have Arv:X0.cell? ⟨iT,8,none⟩=some (.slice lX bD.length lY):=cz aK.out 8 rfl;have Arw:X0.cell? ⟨iT,9,none⟩=some (.slice lZ dw.length l7):=cz aK.out 9 rfl;have Arx:=blk_frozen aK.out 0;have Ary:=blk_frozen aK.out 1;have Arz:=blk_frozen aK.out 2;have ArA:=blk_frozen aK.out 3;have ArB:=blk_frozen aK.out 4;have ArC:=blk_frozen aK.out 5;have ArD:=blk_frozen aK.out 6;have ArE:=blk_frozen aK.out 7;have ArF:=blk_frozen aK.out 8;have ArG:=blk_frozen aK.out 9)|((with_reducible refine iF (b:= .append) (xs:= #[.tmp 92,.tmp 94]) rfl ?_);(try (refine eH (by rfl) ?_;dsimp only));at_builtin;refine Kd.jv (Kd.int .u8) (w0:=w) w.heap.size rfl (.tmp 92) (.tmp 94) 23 5 (.int .u8 0) 1 rfl Try.underlying23 info5 rfl (by decide) (by omega) (.slice (some ⟨Lr,0,none⟩) qF.length SX) zX dw _ _ _ (fun k_=>some k_≠(.slice IM Ar.length IP:Value).ownBlock) (fun _=>False) rfl rfl ?aO ?aR (fun _ _ h=>h) (fun _ h=>h.elim) ?aF ?aB ?aS ?aL ?_;(case aR=>exact Kd.aJ IB.out (bz HB));(case aB=>exact bz HB);(case aF=>exact (fun k_ hk=>Kd.fresh' (Kd.uB (Kd.rz kD)) k_ hk));(case aO=>exact (Kd.rz uw));(case aS=>exact (below_size (bz HB)));(case aL=>have:=AoM.out;omega);intro AAf w56 ho hb hg hat;rw [<- AoN.out] at ho;have ay:=Aside0.mk (jK (kz aK) hg (Kd.rV uw.out aK.out (by decide)));have aC:=Aside0.mk (Kd.tX (ok:=(fun _=>True)) (Kd.rz kD) hg hat);have bg:=Aside0.mk (hb);have dm:=Aside0.mk (ho);clear aK;clear kD;clear HB;clear uw;have aK:=ay;have kD:=aC;have HB:=bg;have AoV:=dm;clear ay aC bg dm;clear ho hb hg hat))
          go_ret2
          exact ⟨_,by first|rfl|(simp [ae,af]<;>rfl)|(simp [*,ae,af]<;>rfl),by (with_reducible repeat (first|apply Kd.ik|apply Kd.gV|apply Kd.iq));exact Kd.R_mono AoV.out (fun _ hk=>trivial),bz HB⟩
         ·rw [aj c26] at H
          cases H
        ·rw [aj c24] at H
         cases H
       ·rw [aj Qx] at H
        cases H
      ·rw [aj c20] at H
       cases H
     ·rw [aj c17] at H
      cases H
end Go.Proofs.Ytkmimamminddiaa.PB
