/- Texts of this claim, merged: PBx41, FR, FB, RwPp, PBx40, FE, PBx33, PBx4, PBx21, FV, RwSg, RwIn, RwRin, RwRlk0, RwRlk, RwLkE. -/
import Derived.Test.YtkmimamminddiaaZob
import Derived.Test.YtkmimamminddiaaZoe
import Derived.Test.YtkmimamminddiaaZof
import Derived.Test.YtkmimamminddiaaZoc
import Derived.Test.YtkmimamminddiaaZod
import Derived.Deep.Cut
import Derived.Deep.CutRange
import Derived.Deep.CutBlock
import Derived.Deep.WholeRow
set_option maxHeartbeats 40000000
set_option maxRecDepth 100000
set_option linter.unusedVariables false
set_option linter.unusedSimpArgs false
namespace Go.Proofs.Ytkmimamminddiaa.PB
open Go.RowKit Go.Proofs.YtkmimamminddiaaW.PrintWords Go.Proofs.YtkmimamminddiaaW.PrintLast Go.Proofs.YtkmimamminddiaaW.PrintMore
attribute [local go_sem] dV dW gI gJ dG dH dX dY
mutual
def bu.j0:Nat ->List Int ->Int ->Int ->Bool ->Option (Int×Int×Int×Int×Int×Int×Int×Int×List Int×List Int×Int)
 |0,_,_,_,_=>none
 |k+1,x0,x4,x5,x33=>if x33=true then (some (0,0,0,0,0,0,0,0,([]:List Int),([]:List Int),21)) else (if (x0.length:Int)<x4 then (bu.j1 k x0 x4 x5 true) else (bu.j1 k x0 x4 x5 (decide ((x0.length:Int)<x5))))
def bu.j1:Nat ->List Int ->Int ->Int ->Bool ->Option (Int×Int×Int×Int×Int×Int×Int×Int×List Int×List Int×Int)
 |0,_,_,_,_=>none
 |k+1,x0,x4,x5,x44=>if x44=true then (some (0,0,0,0,0,0,0,0,([]:List Int),([]:List Int),20)) else (if 0<=x4 then (if x4<=(x0.length:Int) then ((bM.f k 0 (x0.take (x4:Int).toNat)).bind fun I7=>((bF.f k I7).bind fun Ic=>(if Ic=65535 then ((aN.f x0 6).bind fun yf=>(if 1<(x0.length:Int) then ((aN.f x0 4).bind fun EI=>(if 8<(x0.length:Int) then (if 9<(x0.length:Int) then ((eu.f x0 12).bind fun Ie=>((eu.f x0 16).bind fun I8=>((fK.f x0 20 x4).bind fun L6=>((fK.f x0 x4 x5).bind fun Nc=>(some (rd x0 1,rd x0 8,rd x0 9,EI,(yf / 8192) % 256,Go.bits .and .u16 yf 8191,Ie,I8,L6,Nc,0)))))) else (none)) else (none))) else (none))) else (some (0,0,0,0,0,0,0,0,([]:List Int),([]:List Int),22))))) else (none)) else (none))
end
def bu.f (k:Nat) (l0:List Int):Option (Int×Int×Int×Int×Int×Int×Int×Int×List Int×List Int×Int):=if (l0.length:Int)<20 then (some (0,0,0,0,0,0,0,0,([]:List Int),([]:List Int),20)) else (if 0<(l0.length:Int) then ((aN.f l0 2).bind fun yZ=>(if ((rd l0 0) / 16)=4 then (if (wrap64 ((wrap64 (Go.bits .and .u8 (rd l0 0) 15))*4))<20 then (bu.j0 k l0 (wrap64 ((wrap64 (Go.bits .and .u8 (rd l0 0) 15))*4)) (wrap64 (yZ)) true) else (bu.j0 k l0 (wrap64 ((wrap64 (Go.bits .and .u8 (rd l0 0) 15))*4)) (wrap64 (yZ)) (decide ((wrap64 (yZ))<(wrap64 ((wrap64 (Go.bits .and .u8 (rd l0 0) 15))*4)))))) else (bu.j0 k l0 (wrap64 ((wrap64 (Go.bits .and .u8 (rd l0 0) 15))*4)) (wrap64 (yZ)) true))) else (none))
def bu.T3:Bool×List (List Nat×List Nat):=(true,[([],[]),([0],[0]),([1],[1]),([2],[2]),([3],[3]),([4],[4]),([],[]),([6],[6]),([7],[7]),([5,7,0,1,2,3,4,5],[5]),([8,9,0,1,2,3,4,5,6,7,8,9],[8])])
def bu.B3:List Nat:=[0,1,3,7,15,31,0,64,192,255,1023]
theorem bu.TZ:rtab .any (opsOf Try.f38 3)=bu.T3:=by kernel_rfl
theorem bu.JV:waitsOk bu.T3.2 bu.B3=true:=by kernel_rfl
def bu.T11:Bool×List (List Nat×List Nat):=(true,[([],[]),([0],[0]),([1],[1]),([],[]),([3],[3]),([],[]),([5],[5]),([6],[6]),([],[]),([8],[8]),([],[]),([10],[10]),([11],[11]),([],[]),([13],[13]),([14],[14]),([],[]),([16,4],[16]),([],[]),([18,17],[18]),([],[]),([],[]),([20,21,19],[20,21]),([],[]),([],[]),([],[]),([23,24,25,22],[23,24,25]),([2,4,7,9,12,15,17,19,22,26],[2,4,7,9,12,15,17,19,22,26]),([27,26,0,1,2,3,4,5,6,7,8,9,10,11,12,13,14,15,16,17,18,19,20,21,22,23,24,25,26,27],[27]),([28,0,1,2,3,4,5,6,7,8,9,10,11,12,13,14,15,16,17,18,19,20,21,22,23,24,25,26,27,28],[])])
def bu.B11:List Nat:=[0,1,3,0,8,0,32,96,0,256,0,1024,3072,0,8192,24576,0,65560,0,458776,0,0,4128792,0,0,0,67043352,134217727,268435455,536870911]
theorem bu.Apu:rtab .any (opsOf Try.f38 11)=bu.T11:=by kernel_rfl
theorem bu.Aka:waitsOk bu.T11.2 bu.B11=true:=by kernel_rfl
theorem bu.calls (k:Nat) (A0:Option Addr) (c0:Nat) (l0:List Int) (r1:Int) (r2:Int) (r3:Int) (r4:Int) (r5:Int) (r6:Int) (r7:Int) (r8:Int) (r9:List Int) (r10:List Int) (r11:Int) (w:World) (hr0:Kd.C (Kd.int .u8) w A0 l0.length l0) (hc0:l0.length<=c0) (h:bu.f k l0=some (r1,r2,r3,r4,r5,r6,r7,r8,r9,r10,r11)):
  Calls Try.prog 38 #[.slice A0 l0.length c0] w fun e w'=>∃ Jf Jg:Value,e= .returned (.tuple #[.agg #[.int .u8 r1,.int .u8 r2,.int .u8 r3,.int .u16 r4,.int .u8 r5,.int .u16 r6,.int .u32 r7,.int .u32 r8,Jf,Jg],.int .i64 r11]) /\ Kd.R (Kd.int .u8) 5 w' w.heap.size (fun k_=>some k_≠(Jg:Value).ownBlock) Jf r9 /\ Kd.R (Kd.int .u8) 5 w' w.heap.size (fun k_=>some k_≠(Jf:Value).ownBlock) Jg r10 /\ Below w.heap.size w w':=by
 have hu73:=Try.underlying73;have HR0:=Aside0.mk hr0;have mg:=Aside0.mk hc0;clear hr0 hc0;have HB:=jy w;have H:(if (l0.length:Int)<20 then (some (0,0,0,0,0,0,0,0,([]:List Int),([]:List Int),20)) else (if 0<(l0.length:Int) then ((aN.f l0 2).bind fun yZ=>(if ((rd l0 0) / 16)=4 then (if (wrap64 ((wrap64 (Go.bits .and .u8 (rd l0 0) 15))*4))<20 then (bu.j0 k l0 (wrap64 ((wrap64 (Go.bits .and .u8 (rd l0 0) 15))*4)) (wrap64 (yZ)) true) else (bu.j0 k l0 (wrap64 ((wrap64 (Go.bits .and .u8 (rd l0 0) 15))*4)) (wrap64 (yZ)) (decide ((wrap64 (yZ))<(wrap64 ((wrap64 (Go.bits .and .u8 (rd l0 0) 15))*4)))))) else (bu.j0 k l0 (wrap64 ((wrap64 (Go.bits .and .u8 (rd l0 0) 15))*4)) (wrap64 (yZ)) true))) else (none)))=some (r1,r2,r3,r4,r5,r6,r7,r8,r9,r10,r11):=h
 clear h
 by_cases c2:(l0.length:Int)<20
 ·rw [ah c2] at H
  have nV:decide ((l0.length:Int)<20)=true:=bJ c2;have qQ:decide (l0.length<20)=true:=bJ (by omega);clear c2;simp only [Option.some.injEq,Prod.mk.injEq] at H
  obtain ⟨rfl,rfl,rfl,rfl,rfl,rfl,rfl,rfl,rfl,rfl,rfl⟩:=H
  go_enter Try.func38,Try.ntmps38
  go_wp2_with (first|((with_reducible refine gate_dst (N:=2) rfl ?_);(try (refine eH (by rfl) ?_;dsimp only));refine box_event ?hg (N:=2) ?hd (cs:= #[.int .u8 0,.int .u8 0,.int .u8 0,.int .u16 0,.int .u8 0,.int .u16 0,.int .u32 0,.int .u32 0,.slice none 0 0,.slice none 0 0]) (t:=73) ?hr ?_;(case hd=>rfl);(case hg=>rfl);(case hr=>first|(go_simp;done)|(go_simp;rfl));intro fE hg w3 hbox hb;have ay:=Aside0.mk (ag (bz HB) hb);have aC:=Aside0.mk (hbox);have bg:=Aside0.mk ((by rw [hg];exact (below_size (bz HB)):w.heap.size<=fE));have dm:=Aside0.mk ((by rw [hg];exact (below_size (bz HB)):w.heap.size<=fE));clear HB;have HB:=ay;have eG:=aC;have jc:=bg;have Apv:=dm;clear ay aC bg dm;clear hb hbox hg;have vK:w3.cell? ⟨fE,0,none⟩=some (.int .u8 0):=cz eG.out 0 rfl;have vM:w3.cell? ⟨fE,1,none⟩=some (.int .u8 0):=cz eG.out 1 rfl;have vN:w3.cell? ⟨fE,2,none⟩=some (.int .u8 0):=cz eG.out 2 rfl;have vO:w3.cell? ⟨fE,3,none⟩=some (.int .u16 0):=cz eG.out 3 rfl;have zU:w3.cell? ⟨fE,4,none⟩=some (.int .u8 0):=cz eG.out 4 rfl;have O4:w3.cell? ⟨fE,5,none⟩=some (.int .u16 0):=cz eG.out 5 rfl;have O5:w3.cell? ⟨fE,6,none⟩=some (.int .u32 0):=cz eG.out 6 rfl;have O6:w3.cell? ⟨fE,7,none⟩=some (.int .u32 0):=cz eG.out 7 rfl;have O7:w3.cell? ⟨fE,8,none⟩=some (.slice none 0 0):=cz eG.out 8 rfl;have Pg:w3.cell? ⟨fE,9,none⟩=some (.slice none 0 0):=cz eG.out 9 rfl;have vP:=blk_frozen eG.out 0;have vS:=blk_frozen eG.out 1;have vT:=blk_frozen eG.out 2;have vU:=blk_frozen eG.out 3;have zV:=blk_frozen eG.out 4;have Ph:=blk_frozen eG.out 5;have Pj:=blk_frozen eG.out 6;have Pm:=blk_frozen eG.out 7;have Pn:=blk_frozen eG.out 8;have Po:=blk_frozen eG.out 9))
  refine bodyPost_ret (iJ rfl _ _ fE 73 #[.int .u8 0,.int .u8 0,.int .u8 0,.int .u16 0,.int .u8 0,.int .u16 0,.int .u32 0,.int .u32 0,.slice none 0 0,.slice none 0 0] (0,0) _ rfl (by (repeat (first|with_reducible refine aH ?_ _|with_reducible refine az ?_|with_reducible refine aG ?_ _|refine bH (cs:= #[.int .u8 0,.int .u8 0,.int .u8 0,.int .u16 0,.int .u8 0,.int .u16 0,.int .u32 0,.int .u32 0,.slice none 0 0,.slice none 0 0]) ?_ _ _ rfl));(with_reducible repeat (first|refine aH ?_ _|refine az ?_|refine aG ?_ _));exact eG.out) Try.underlying73 rfl (by kernel_rfl)) rfl ?_
  exact ⟨_,_,by first|rfl|(simp [ae,af]<;>rfl)|(simp [*,ae,af]<;>rfl),by first|exact Kd.bV _ _ _ _ _|exact Kd.lV _ _ _ _ _|exact Kd.lW _ _ _ _ _|exact Kd.lT _ _ _ _ _|exact Kd.lU _ _ _ _ _,by first|exact Kd.bV _ _ _ _ _|exact Kd.lV _ _ _ _ _|exact Kd.lW _ _ _ _ _|exact Kd.lT _ _ _ _ _|exact Kd.lU _ _ _ _ _,bz HB⟩
 ·rw [aj c2] at H
  have nV:decide ((l0.length:Int)<20)=false:=jC c2;have qQ:decide (l0.length<20)=false:=jC (by omega);clear c2
  by_cases c5:0<(l0.length:Int)
  ·rw [ah c5] at H
   have qR:decide (0<(l0.length:Int))=true:=bJ c5;have wO:decide (0<l0.length)=true:=bJ (by omega);clear c5;replace H:=dM H;obtain ⟨yZ,Ce,H⟩:=H
   (try dsimp -simprocs only at H)
   have A6:=Aside0.mk Ce;clear Ce;have HC7:=Aside0.mk H;clear H
   go_enter Try.func38,Try.ntmps38
   try go_wp2_with (first|((with_reducible refine gate_dst (N:=2) rfl ?_);(try (refine eH (by rfl) ?_;dsimp only));refine box_event ?hg (N:=2) ?hd (cs:= #[.int .u8 0,.int .u8 0,.int .u8 0,.int .u16 0,.int .u8 0,.int .u16 0,.int .u32 0,.int .u32 0,.slice none 0 0,.slice none 0 0]) (t:=73) ?hr ?_;(case hd=>rfl);(case hg=>rfl);(case hr=>first|(go_simp;done)|(go_simp;rfl));intro fE hg w8 hbox hb;have ay:=Aside0.mk (ag (bz HB) hb);have aC:=Aside0.mk (hbox);have bg:=Aside0.mk ((by rw [hg];exact (below_size (bz HB)):w.heap.size<=fE));have dm:=Aside0.mk ((by rw [hg];exact (below_size (bz HB)):w.heap.size<=fE));clear HB;have HB:=ay;have eG:=aC;have jc:=bg;have Apv:=dm;clear ay aC bg dm;clear hb hbox hg))
   have ay:=Aside0.mk (az eG.out);have aC:=Aside0.mk (below_drew1 HB.out);clear eG;clear HB;have eG:=ay;have HB:=aC;clear ay aC;have AbT:0<=(0:Int):=(by omega)
   have AbU:0<(l0.length:Int):=je;obtain ⟨rU,Avu,yE⟩:=Kd.dU HR0.out 0 AbT AbU;have BU:=yE
   (try rw [show ((0:Int)).toNat=0 from rfl] at BU)
   (try rw [show 0*1=0 from rfl] at BU)
   (try rw [Addr.add_zero'] at BU)
   cases Avu
   have Ayc:(0<l0.length)=True:=eq_true (by omega)
   (try rw [show ((0:Int)).toNat=0 from rfl] at yE)
   (try rw [Addr.add_zero'] at yE)
   replace yE:=(HB.out.cell (dS w _ yE)).trans yE;replace AbT:=eq_true AbT;replace AbU:=eq_true AbU;refine start_ (n:=11) (S:=fun w'=>w'.cell? rU=some (.int .u8 (rd l0 0))) (ds:=[]) #[false,false,false,false,false,false,false,false,false,false,false] (by kernel_rfl) rfl rfl (((HB.out.cell (dS w _ BU)).trans BU)) (fun hHeld=> ?_);refine with_tabW bu.TZ bu.JV (fun HT_ HW_=> ?_);generalize w8.drew=w9 at eG HB yE hHeld|-
   refine pz 0 11 HT_ ?_;refine pz 1 12 HT_ ?_;refine pz 6 17 HT_ ?_;refine tz 2 13 HT_ HW_ hHeld ?_;refine pz 3 14 HT_ ?_;refine pz 4 15 HT_ ?_;refine pz 5 16 HT_ ?_;refine oz 7 (some 18) HT_ (fun K hK=> ?_);refine gG Try.func64 #[.slice (some rU) l0.length c0,.int .i64 2] ?_
   with_reducible refine (aN.calls _ _ l0 2 yZ _ ?au ?ax A6.out).mono ?_
   (case au=>exact Kd.aJ HR0.out (bz HB))
   (case ax=>exact mg.out)
   rintro e w' ⟨rfl,⟨nd,rfl⟩⟩;refine ⟨_,rfl, ?_⟩;refine hK.out _ _ (((HB.out.cell (dS w _ BU)).trans BU)) (fun hHeld=> ?_);clear hK K;refine nz 18 ?_;refine pz 8 19 HT_ ?_;refine pz 9 4 HT_ ?_;refine pz 10 5 HT_ ?_;refine dz HT_ ?_
   go_upto_region 4 with (fail)
   go_cut [33] (fun v33 wc=>∃ (kq:Nat) (WT:Bool),v33= .bool WT /\ Aside0 (bu.j0 kq l0 (wrap64 ((wrap64 (Go.bits .and .u8 (rd l0 0) 15))*4)) (wrap64 (yZ)) WT=some (r1,r2,r3,r4,r5,r6,r7,r8,r9,r10,r11)) /\ Aside0 (kq<=k) /\ Aside0 (wc.heap[fE]?=some (.cells #[.int .u8 0,.int .u8 0,.int .u8 0,.int .u16 0,.int .u8 0,.int .u16 0,.int .u32 0,.int .u32 0,(.slice none 0 0),(.slice none 0 0)] 73 (0,0))) /\ Aside0 (Below w.heap.size w wc))
   case first=>
    have H:=HC7.out;clear HC7
    by_cases c10:((rd l0 0) / 16)=4
    ·rw [ah c10] at H
     have Aa:(((rd l0 0) / 16)==4)=true:=jf c10;have VF:(((rd l0 0) / 16) !=4)=false:=oM c10;clear c10
     (first|rw [Aa]|(simp only [i64_w,i32_w];rw [Aa])|skip)
     by_cases c11:(wrap64 ((wrap64 (Go.bits .and .u8 (rd l0 0) 15))*4))<20
     ·rw [ah c11] at H
      have Ip:decide ((wrap64 ((wrap64 (Go.bits .and .u8 (rd l0 0) 15))*4))<20)=true:=bJ c11;clear c11;have H':=Aside0.mk H;clear H;have L8:0<=(0:Int):=(by omega)
      have L9:0<(l0.length:Int):=je;obtain ⟨Tu,AbV,qw⟩:=Kd.dU HR0.out 0 L8 L9;obtain rfl:rU=Tu:=(by injection AbV)
      have AgA:(0<l0.length)=True:=eq_true (by omega)
      (try rw [show ((0:Int)).toNat=0 from rfl] at qw)
      (try rw [Addr.add_zero'] at qw)
      replace qw:=(HB.out.cell (dS w _ qw)).trans qw;replace L8:=eq_true L8;replace L9:=eq_true L9
      go_wp2
      go_meet
      case rel=>exact ⟨_,(true),(by first|rfl|(simp;done)|(simp [*];done)),H',⟨by first|omega|exact Nat.le_refl _⟩,⟨kz eG⟩,⟨bz HB⟩⟩
     ·rw [aj c11] at H
      have Ip:decide ((wrap64 ((wrap64 (Go.bits .and .u8 (rd l0 0) 15))*4))<20)=false:=jC c11;clear c11;have H':=Aside0.mk H;clear H;have L8:0<=(0:Int):=(by omega)
      have L9:0<(l0.length:Int):=je;obtain ⟨Tu,AbV,qw⟩:=Kd.dU HR0.out 0 L8 L9;obtain rfl:rU=Tu:=(by injection AbV)
      have AgA:(0<l0.length)=True:=eq_true (by omega)
      (try rw [show ((0:Int)).toNat=0 from rfl] at qw)
      (try rw [Addr.add_zero'] at qw)
      replace qw:=(HB.out.cell (dS w _ qw)).trans qw;replace L8:=eq_true L8;replace L9:=eq_true L9
      go_wp2
      go_meet
      case rel=>exact ⟨_,(decide ((wrap64 (yZ))<(wrap64 ((wrap64 (Go.bits .and .u8 (rd l0 0) 15))*4)))),(by first|rfl|(simp;done)|(simp [*];done)),H',⟨by first|omega|exact Nat.le_refl _⟩,⟨kz eG⟩,⟨bz HB⟩⟩
    ·rw [aj c10] at H
     have Aa:(((rd l0 0) / 16)==4)=false:=iM c10;have VF:(((rd l0 0) / 16) !=4)=true:=pq c10
     (first|rw [Aa]|(simp only [i64_w,i32_w];rw [Aa])|skip)
     have H':=Aside0.mk H;clear H;have L8:0<=(0:Int):=(by omega)
     have L9:0<(l0.length:Int):=je;obtain ⟨Tu,AbV,qw⟩:=Kd.dU HR0.out 0 L8 L9;obtain rfl:rU=Tu:=(by injection AbV)
     have AgA:(0<l0.length)=True:=eq_true (by omega)
     (try rw [show ((0:Int)).toNat=0 from rfl] at qw)
     (try rw [Addr.add_zero'] at qw)
     replace qw:=(HB.out.cell (dS w _ qw)).trans qw;replace L8:=eq_true L8;replace L9:=eq_true L9
     go_wp2
     go_meet
     case rel=>exact ⟨_,(true),(by first|rfl|(simp;done)|(simp [*];done)),H',⟨by first|omega|exact Nat.le_refl _⟩,⟨kz eG⟩,⟨bz HB⟩⟩
   case rest=>
    clear HC7
    try clear c2
    try clear nV
    try clear qQ
    try clear c5
    try clear qR
    try clear wO
    try clear yE
    try clear AbT
    try clear AbU
    obtain ⟨kq,WT,rfl,HA,HJ6,eG,HB⟩:=hcut
    cases kq with
    |zero=>exact absurd HA.out (by simp [bu.j0])
    |succ kj6=>
     have H:=HA.out;clear HA;simp only [bu.j0] at H
     by_cases c12:WT=true
     ·subst c12
      have H1:(some (0,0,0,0,0,0,0,0,([]:List Int),([]:List Int),21))=some (r1,r2,r3,r4,r5,r6,r7,r8,r9,r10,r11):=by rw [ah rfl] at H;exact H
      clear H;have H:=H1;clear H1;simp only [Option.some.injEq,Prod.mk.injEq] at H
      obtain ⟨rfl,rfl,rfl,rfl,rfl,rfl,rfl,rfl,rfl,rfl,rfl⟩:=H;have Abm:=xC eG.out;have Abn:=blk_frozen eG.out
      go_wp2
      refine bodyPost_ret (iJ rfl _ _ fE 73 #[.int .u8 0,.int .u8 0,.int .u8 0,.int .u16 0,.int .u8 0,.int .u16 0,.int .u32 0,.int .u32 0,.slice none 0 0,.slice none 0 0] (0,0) _ rfl (by (repeat (first|with_reducible refine aH ?_ _|with_reducible refine az ?_|with_reducible refine aG ?_ _|refine bH (cs:= #[.int .u8 0,.int .u8 0,.int .u8 0,.int .u16 0,.int .u8 0,.int .u16 0,.int .u32 0,.int .u32 0,.slice none 0 0,.slice none 0 0]) ?_ _ _ rfl));(with_reducible repeat (first|refine aH ?_ _|refine az ?_|refine aG ?_ _));exact eG.out) Try.underlying73 rfl (by kernel_rfl)) rfl ?_
      exact ⟨_,_,by first|rfl|(simp [ae,af]<;>rfl)|(simp [*,ae,af]<;>rfl),by first|exact Kd.bV _ _ _ _ _|exact Kd.lV _ _ _ _ _|exact Kd.lW _ _ _ _ _|exact Kd.lT _ _ _ _ _|exact Kd.lU _ _ _ _ _,by first|exact Kd.bV _ _ _ _ _|exact Kd.lV _ _ _ _ _|exact Kd.lW _ _ _ _ _|exact Kd.lT _ _ _ _ _|exact Kd.lU _ _ _ _ _,bz HB⟩
     ·replace c12:=FT c12
      subst c12;have H1:(if (l0.length:Int)<(wrap64 ((wrap64 (Go.bits .and .u8 (rd l0 0) 15))*4)) then (bu.j1 kj6 l0 (wrap64 ((wrap64 (Go.bits .and .u8 (rd l0 0) 15))*4)) (wrap64 (yZ)) true) else (bu.j1 kj6 l0 (wrap64 ((wrap64 (Go.bits .and .u8 (rd l0 0) 15))*4)) (wrap64 (yZ)) (decide ((l0.length:Int)<(wrap64 (yZ))))))=some (r1,r2,r3,r4,r5,r6,r7,r8,r9,r10,r11):=by rw [aj (show ¬ (false=true) by decide)] at H;exact H
      clear H;have H:=H1;clear H1;have Akb:=Aside0.mk H;clear H
      go_upto_region 6 with (fail)
      go_cut [44] (fun v44 wc=>∃ (kq:Nat) (P7:Bool),v44= .bool P7 /\ Aside0 (bu.j1 kq l0 (wrap64 ((wrap64 (Go.bits .and .u8 (rd l0 0) 15))*4)) (wrap64 (yZ)) P7=some (r1,r2,r3,r4,r5,r6,r7,r8,r9,r10,r11)) /\ Aside0 (kq<=kj6) /\ Aside0 (wc.heap[fE]?=some (.cells #[.int .u8 0,.int .u8 0,.int .u8 0,.int .u16 0,.int .u8 0,.int .u16 0,.int .u32 0,.int .u32 0,(.slice none 0 0),(.slice none 0 0)] 73 (0,0))) /\ Aside0 (Below w.heap.size w wc))
      case first=>
       have H:=Akb.out;clear Akb
       by_cases c15:(l0.length:Int)<(wrap64 ((wrap64 (Go.bits .and .u8 (rd l0 0) 15))*4))
       ·rw [ah c15] at H
        have CS:decide ((l0.length:Int)<(wrap64 ((wrap64 (Go.bits .and .u8 (rd l0 0) 15))*4)))=true:=bJ c15;clear c15
        (first|rw [CS]|(simp only [i64_w,i32_w];rw [CS])|skip)
        have H':=Aside0.mk H;clear H
        go_wp2
        go_meet
        case rel=>exact ⟨_,(true),(by first|rfl|(simp;done)|(simp [*];done)),H',⟨by have:=HJ6.out;first|omega|exact Nat.le_refl _⟩,⟨kz eG⟩,⟨bz HB⟩⟩
       ·rw [aj c15] at H
        have CS:decide ((l0.length:Int)<(wrap64 ((wrap64 (Go.bits .and .u8 (rd l0 0) 15))*4)))=false:=jC c15;clear c15
        (first|rw [CS]|(simp only [i64_w,i32_w];rw [CS])|skip)
        have H':=Aside0.mk H;clear H
        go_wp2
        go_meet
        case rel=>exact ⟨_,(decide ((l0.length:Int)<(wrap64 (yZ)))),(by first|rfl|(simp;done)|(simp [*];done)),H',⟨by have:=HJ6.out;first|omega|exact Nat.le_refl _⟩,⟨kz eG⟩,⟨bz HB⟩⟩
      case rest=>
       clear Akb
       try clear c2
       try clear nV
       try clear qQ
       try clear c5
       try clear qR
       try clear wO
       try clear c12
       try clear yE
       try clear AbT
       try clear AbU
       obtain ⟨kq,P7,rfl,HA,AAH,eG,HB⟩:=hcut
       cases kq with
       |zero=>exact absurd HA.out (by simp [bu.j1])
       |succ Tv=>
        have H:=HA.out;clear HA;simp only [bu.j1] at H
        by_cases c16:P7=true
        ·subst c16
         have H1:(some (0,0,0,0,0,0,0,0,([]:List Int),([]:List Int),20))=some (r1,r2,r3,r4,r5,r6,r7,r8,r9,r10,r11):=by rw [ah rfl] at H;exact H
         clear H;have H:=H1;clear H1;simp only [Option.some.injEq,Prod.mk.injEq] at H
         obtain ⟨rfl,rfl,rfl,rfl,rfl,rfl,rfl,rfl,rfl,rfl,rfl⟩:=H;have Apw:=xC eG.out;have Apx:=blk_frozen eG.out
         go_wp2
         refine bodyPost_ret (iJ rfl _ _ fE 73 #[.int .u8 0,.int .u8 0,.int .u8 0,.int .u16 0,.int .u8 0,.int .u16 0,.int .u32 0,.int .u32 0,.slice none 0 0,.slice none 0 0] (0,0) _ rfl (by (repeat (first|with_reducible refine aH ?_ _|with_reducible refine az ?_|with_reducible refine aG ?_ _|refine bH (cs:= #[.int .u8 0,.int .u8 0,.int .u8 0,.int .u16 0,.int .u8 0,.int .u16 0,.int .u32 0,.int .u32 0,.slice none 0 0,.slice none 0 0]) ?_ _ _ rfl));(with_reducible repeat (first|refine aH ?_ _|refine az ?_|refine aG ?_ _));exact eG.out) Try.underlying73 rfl (by kernel_rfl)) rfl ?_
         exact ⟨_,_,by first|rfl|(simp [ae,af]<;>rfl)|(simp [*,ae,af]<;>rfl),by first|exact Kd.bV _ _ _ _ _|exact Kd.lV _ _ _ _ _|exact Kd.lW _ _ _ _ _|exact Kd.lT _ _ _ _ _|exact Kd.lU _ _ _ _ _,by first|exact Kd.bV _ _ _ _ _|exact Kd.lV _ _ _ _ _|exact Kd.lW _ _ _ _ _|exact Kd.lT _ _ _ _ _|exact Kd.lU _ _ _ _ _,bz HB⟩
        ·replace c16:=FT c16
         subst c16
         have H1:(if 0<=(wrap64 ((wrap64 (Go.bits .and .u8 (rd l0 0) 15))*4)) then (if (wrap64 ((wrap64 (Go.bits .and .u8 (rd l0 0) 15))*4))<=(l0.length:Int) then ((bM.f Tv 0 (l0.take ((wrap64 ((wrap64 (Go.bits .and .u8 (rd l0 0) 15))*4)):Int).toNat)).bind fun I7=>((bF.f Tv I7).bind fun Ic=>(if Ic=65535 then ((aN.f l0 6).bind fun yf=>(if 1<(l0.length:Int) then ((aN.f l0 4).bind fun EI=>(if 8<(l0.length:Int) then (if 9<(l0.length:Int) then ((eu.f l0 12).bind fun Ie=>((eu.f l0 16).bind fun I8=>((fK.f l0 20 (wrap64 ((wrap64 (Go.bits .and .u8 (rd l0 0) 15))*4))).bind fun L6=>((fK.f l0 (wrap64 ((wrap64 (Go.bits .and .u8 (rd l0 0) 15))*4)) (wrap64 (yZ))).bind fun Nc=>(some (rd l0 1,rd l0 8,rd l0 9,EI,(yf / 8192) % 256,Go.bits .and .u16 yf 8191,Ie,I8,L6,Nc,0)))))) else (none)) else (none))) else (none))) else (some (0,0,0,0,0,0,0,0,([]:List Int),([]:List Int),22))))) else (none)) else (none))=some (r1,r2,r3,r4,r5,r6,r7,r8,r9,r10,r11):=by rw [aj (show ¬ (false=true) by decide)] at H;exact H
         clear H;have H:=H1;clear H1;obtain ⟨xu,GU⟩:∃ j_:Int,(wrap64 ((wrap64 (Go.bits .and .u8 (rd l0 0) 15))*4))=j_:=⟨_,rfl⟩
         replace H:(if 0<=(xu) then (if (xu)<=(l0.length:Int) then ((bM.f Tv 0 (l0.take ((xu):Int).toNat)).bind fun I7=>((bF.f Tv I7).bind fun Ic=>(if Ic=65535 then ((aN.f l0 6).bind fun yf=>(if 1<(l0.length:Int) then ((aN.f l0 4).bind fun EI=>(if 8<(l0.length:Int) then (if 9<(l0.length:Int) then ((eu.f l0 12).bind fun Ie=>((eu.f l0 16).bind fun I8=>((fK.f l0 20 (xu)).bind fun L6=>((fK.f l0 (xu) (wrap64 (yZ))).bind fun Nc=>(some (rd l0 1,rd l0 8,rd l0 9,EI,(yf / 8192) % 256,Go.bits .and .u16 yf 8191,Ie,I8,L6,Nc,0)))))) else (none)) else (none))) else (none))) else (some (0,0,0,0,0,0,0,0,([]:List Int),([]:List Int),22))))) else (none)) else (none))=some (r1,r2,r3,r4,r5,r6,r7,r8,r9,r10,r11):=by first|(rw [GU] at H;exact H)|(simp only [GU] at H|-;exact H)
         have Avw:(IntKind.i64.wrap ((wrap64 (Go.bits .and .u8 (rd l0 0) 15))*4))=xu:=(i64_w _).trans GU
         by_cases c19:0<=(xu)
         ·rw [ah c19] at H
          have Zc:=eq_true c19;have AeM:decide (0<=(xu))=true:=bJ c19;clear c19
          by_cases c20:(xu)<=(l0.length:Int)
          ·rw [ah c20] at H
           have Aye:=eq_true c20;have Ayf:decide ((xu)<=(l0.length:Int))=true:=bJ c20;clear c20;replace H:=dM H;obtain ⟨I7,SN,H⟩:=H
           (try dsimp -simprocs only at H)
           have A21:=Aside0.mk SN;clear SN;replace H:=dM H;obtain ⟨Ic,ZA,H⟩:=H
           (try dsimp -simprocs only at H)
           have A22:=Aside0.mk ZA;clear ZA
           by_cases c23:Ic=65535
           ·rw [ah c23] at H
            have ZB:(Ic==65535)=true:=jf c23;have Ae4:(Ic !=65535)=false:=oM c23;clear c23;replace H:=dM H;obtain ⟨yf,Apy,H⟩:=H
            (try dsimp -simprocs only at H)
            have A24:=Aside0.mk Apy;clear Apy
            by_cases c25:1<(l0.length:Int)
            ·rw [ah c25] at H
             have Ayg:decide (1<(l0.length:Int))=true:=bJ c25;have Ayh:decide (1<l0.length)=true:=bJ (by omega);clear c25;replace H:=dM H;obtain ⟨EI,QK,H⟩:=H
             (try dsimp -simprocs only at H)
             have A26:=Aside0.mk QK;clear QK
             by_cases c27:8<(l0.length:Int)
             ·rw [ah c27] at H
              have Amd:decide (8<(l0.length:Int))=true:=bJ c27;have Ame:decide (8<l0.length)=true:=bJ (by omega);clear c27
              by_cases c28:9<(l0.length:Int)
              ·rw [ah c28] at H
               have Amf:decide (9<(l0.length:Int))=true:=bJ c28;have Ayi:decide (9<l0.length)=true:=bJ (by omega);clear c28;replace H:=dM H;obtain ⟨Ie,ZC,H⟩:=H
               (try dsimp -simprocs only at H)
               have A29:=Aside0.mk ZC;clear ZC;replace H:=dM H;obtain ⟨I8,Apz,H⟩:=H
               (try dsimp -simprocs only at H)
               have CB:=Aside0.mk Apz;clear Apz;replace H:=dM H;obtain ⟨L6,AaO,H⟩:=H
               (try dsimp -simprocs only at H)
               have A31:=Aside0.mk AaO;clear AaO;replace H:=dM H;obtain ⟨Nc,Aax,H⟩:=H
               (try dsimp -simprocs only at H)
               have A32:=Aside0.mk Aax;clear Aax;simp only [Option.some.injEq,Prod.mk.injEq] at H
               obtain ⟨rfl,rfl,rfl,rfl,rfl,rfl,rfl,rfl,rfl,rfl,rfl⟩:=H;obtain ⟨AAI,AgB,_,AgC,_⟩:=info_parts info5;obtain ⟨Avx,ApA,ApB⟩:=uA (P:=Try.prog) (Value.int .u8) 0 23 5 .i64 Try.underlying23 AgB AgC (some rU) c0 l0 (xu) je je mg.out;have AbW:=Aside0.mk (Kd.dR (h1:=fun _=>rfl) (ApA _ (Kd.dO HR0.out)));have AbX:=Aside0.mk ApB;clear ApA ApB AgB AgC
               try go_wp2_with (first|((with_reducible refine ai (f:=80) rfl ?_);refine zQ (some 49) rfl rfl Try.func80 (by kernel_rfl) rfl #[.int .u32 0,.slice (some rU) (l0.take ((xu):Int).toNat).length c0] rfl (by (try simp only [List.map_toArray,List.map_cons,List.map_nil]);first|done|(rw [show (l0.take ((xu):Int).toNat).length=(xu).toNat from (by rw [List.length_take];have h_:((xu):Int)<=(l0.length:Int):=je;omega)]<;>rfl)|(simp only [GU];rfl)|rfl|(simp only [List.length_drop,List.length_take];rfl)|(go_simp;done)|(simp [Act.eval,IntKind.signed];done)|(simp [Act.eval,IntKind.signed];rfl)) ?_;(with_reducible refine (bM.calls Tv 0 _ _ (l0.take ((xu):Int).toNat) I7 _ ?au ?ax A21.out).mono ?_);(case au=>exact Kd.aJ AbW.out (bz HB));(case ax=>exact AbX.out);rintro e Ur ⟨rfl,hb⟩;refine ⟨_,rfl, ?_⟩;have ay:=Aside0.mk (aZ (kz eG) hb);have aC:=Aside0.mk (ag (bz HB) hb);clear eG;clear HB;have eG:=ay;have HB:=aC;clear ay aC;(try clear hb);(try clear hb2);(try clear hk);(try clear hi))|((with_reducible refine ai (f:=79) rfl ?_);refine gL 50 Try.func79 #[.int .u32 I7] ?_;(with_reducible refine (bF.calls Tv I7 Ic _ A22.out).mono ?_);rintro e w' ⟨rfl,⟨nd,rfl⟩⟩;refine ⟨_,rfl, ?_⟩;(try (rw [iC Ur];generalize nO:World.drewN Ur _=Ur;have ay:Aside0 (Ur.heap[fE]?=some (.cells #[.int .u8 0,.int .u8 0,.int .u8 0,.int .u16 0,.int .u8 0,.int .u16 0,.int .u32 0,.int .u32 0,.slice none 0 0,.slice none 0 0] 73 (0,0))):=⟨by rw [<- nO];exact (kz eG)⟩;have aC:Aside0 (Below w.heap.size w Ur):=⟨by rw [<- nO];exact bz HB⟩;clear eG HB nO;have eG:=ay;have HB:=aC;clear ay aC)))|((with_reducible refine ai (f:=64) rfl ?_);refine gL 54 Try.func64 #[.slice (some rU) l0.length c0,.int .i64 6] ?_;(with_reducible refine (aN.calls _ _ l0 6 yf _ ?au ?ax A24.out).mono ?_);(case au=>exact Kd.aJ HR0.out (bz HB));(case ax=>exact mg.out);rintro e w' ⟨rfl,⟨nd,rfl⟩⟩;refine ⟨_,rfl, ?_⟩;(try (rw [iC Ur];generalize nO:World.drewN Ur _=Ur;have ay:Aside0 (Ur.heap[fE]?=some (.cells #[.int .u8 0,.int .u8 0,.int .u8 0,.int .u16 0,.int .u8 0,.int .u16 0,.int .u32 0,.int .u32 0,.slice none 0 0,.slice none 0 0] 73 (0,0))):=⟨by rw [<- nO];exact (kz eG)⟩;have aC:Aside0 (Below w.heap.size w Ur):=⟨by rw [<- nO];exact bz HB⟩;clear eG HB nO;have eG:=ay;have HB:=aC;clear ay aC))))
               have ay:=Aside0.mk (az eG.out);have aC:=Aside0.mk (below_drew1 HB.out);clear eG;clear HB;have eG:=ay;have HB:=aC;clear ay aC;have Akc:0<=(1:Int):=(by omega)
               have Akd:1<(l0.length:Int):=je;obtain ⟨ApC,Avy,BV⟩:=Kd.dU HR0.out 1 Akc Akd;have jo:=BV
               (try rw [show ((1:Int)).toNat=1 from rfl] at jo)
               (try rw [show 1*1=1 from rfl] at jo)
               (try simp only [Nat.reduceMul,Nat.reduceEqDiff,Go.Addr.add,↓reduceIte] at jo)
               obtain rfl:rU=ApC:=(by injection Avy)
               (try simp only [show (1:Int).toNat=1 from rfl,Nat.reduceMul,Nat.reduceEqDiff,Go.Addr.add,↓reduceIte] at BV)
               have Ayj:(1<l0.length)=True:=eq_true (by omega)
               (try rw [show ((1:Int)).toNat=1 from rfl] at BV)
               replace BV:=(HB.out.cell (dS w _ BV)).trans BV;replace Akc:=eq_true Akc;replace Akd:=eq_true Akd;have Ake:0<=(8:Int):=(by omega)
               have Akf:8<(l0.length:Int):=je;obtain ⟨ApD,Avz,BX⟩:=Kd.dU HR0.out 8 Ake Akf;have jq:=BX
               (try rw [show ((8:Int)).toNat=8 from rfl] at jq)
               (try rw [show 8*1=8 from rfl] at jq)
               (try simp only [Nat.reduceMul,Nat.reduceEqDiff,Go.Addr.add,↓reduceIte] at jq)
               obtain rfl:rU=ApD:=(by injection Avz)
               (try simp only [show (8:Int).toNat=8 from rfl,Nat.reduceMul,Nat.reduceEqDiff,Go.Addr.add,↓reduceIte] at BX)
               have Ayk:(8<l0.length)=True:=eq_true (by omega)
               (try rw [show ((8:Int)).toNat=8 from rfl] at BX)
               replace BX:=(HB.out.cell (dS w _ BX)).trans BX;replace Ake:=eq_true Ake;replace Akf:=eq_true Akf;have Akg:0<=(9:Int):=(by omega)
               have Akh:9<(l0.length:Int):=je;obtain ⟨ApE,AvA,BZ⟩:=Kd.dU HR0.out 9 Akg Akh;have jr:=BZ
               (try rw [show ((9:Int)).toNat=9 from rfl] at jr)
               (try rw [show 9*1=9 from rfl] at jr)
               (try simp only [Nat.reduceMul,Nat.reduceEqDiff,Go.Addr.add,↓reduceIte] at jr)
               obtain rfl:rU=ApE:=(by injection AvA)
               (try simp only [show (9:Int).toNat=9 from rfl,Nat.reduceMul,Nat.reduceEqDiff,Go.Addr.add,↓reduceIte] at BZ)
               have Ayl:(9<l0.length)=True:=eq_true (by omega)
               (try rw [show ((9:Int)).toNat=9 from rfl] at BZ)
               replace BZ:=(HB.out.cell (dS w _ BZ)).trans BZ;replace Akg:=eq_true Akg;replace Akh:=eq_true Akh
               refine start_ (n:=30) (S:=fun w'=>w'.cell? ⟨rU.block,rU.off+1,none⟩=some (.int .u8 (rd l0 1)) /\ w'.cell? ⟨rU.block,rU.off+8,none⟩=some (.int .u8 (rd l0 8)) /\ w'.cell? ⟨rU.block,rU.off+9,none⟩=some (.int .u8 (rd l0 9))) (ds:=[]) #[false,false,false,false,false,false,false,false,false,false,false,false,false,false,false,false,false,false,false,false,false,false,false,false,false,false,false,false,false,false] (by kernel_rfl) rfl rfl ⟨((HB.out.cell (dS w _ jo)).trans jo),((HB.out.cell (dS w _ jq)).trans jq),((HB.out.cell (dS w _ jr)).trans jr)⟩ (fun hHeld=> ?_);refine with_tabW bu.Apu bu.Aka (fun HT_ HW_=> ?_);generalize Ur.drew=Hg at eG HB BV BX BZ hHeld|-
               refine pz 0 55 HT_ ?_;refine pz 1 56 HT_ ?_;refine pz 3 58 HT_ ?_;refine pz 5 60 HT_ ?_;refine pz 6 61 HT_ ?_;refine pz 7 62 HT_ ?_;refine pz 8 63 HT_ ?_;refine pz 9 64 HT_ ?_;refine pz 10 65 HT_ ?_;refine pz 11 66 HT_ ?_;refine pz 13 68 HT_ ?_;refine pz 14 69 HT_ ?_;refine pz 16 71 HT_ ?_;refine pz 18 73 HT_ ?_;refine pz 20 75 HT_ ?_;refine pz 21 76 HT_ ?_;refine pz 23 78 HT_ ?_;refine pz 24 79 HT_ ?_;refine pz 25 80 HT_ ?_;refine take_ (i:=2) (N:=some 57) (v:= ?_) (a':= ?_) #[true,true,true,true,false,true,true,true,true,true,true,true,false,true,true,false,true,false,true,false,true,true,false,true,true,true,false,false,false,false] rfl rfl (take_ofW HT_.out HW_.out (by kernel_rfl)) (fun _ _ _ h=>h) (Or.inl ⟨by rfl, ?_⟩) hHeld ?_ ?_
               rotate_left
               ·rintro w' ⟨s0,s1,s2⟩
                go_simp
                with_reducible rfl
               rotate_left
               ·simp only [vF]
                rfl
               refine take_ (i:=12) (N:=some 67) (v:= ?_) (a':= ?_) #[true,true,true,true,false,true,true,true,true,true,true,true,true,true,true,false,true,false,true,false,true,true,false,true,true,true,false,false,false,false] rfl rfl (take_ofW HT_.out HW_.out (by kernel_rfl)) (fun _ _ _ h=>h) (Or.inl ⟨by rfl, ?_⟩) hHeld ?_ ?_
               rotate_left
               ·rintro w' ⟨s0,s1,s2⟩
                go_simp
                with_reducible rfl
               rotate_left
               ·simp only [vF]
                rfl
               refine take_ (i:=15) (N:=some 70) (v:= ?_) (a':= ?_) #[true,true,true,true,false,true,true,true,true,true,true,true,true,true,true,true,true,false,true,false,true,true,false,true,true,true,false,false,false,false] rfl rfl (take_ofW HT_.out HW_.out (by kernel_rfl)) (fun _ _ _ h=>h) (Or.inl ⟨by rfl, ?_⟩) hHeld ?_ ?_
               rotate_left
               ·rintro w' ⟨s0,s1,s2⟩
                go_simp
                with_reducible rfl
               rotate_left
               ·simp only [vF]
                rfl
               refine oz 4 (some 59) HT_ (fun K hK=> ?_);refine gG Try.func64 #[.slice (some rU) l0.length c0,.int .i64 4] ?_
               with_reducible refine (aN.calls _ _ l0 4 EI _ ?au ?ax A26.out).mono ?_
               (case au=>exact Kd.aJ HR0.out (bz HB))
               (case ax=>exact mg.out)
               rintro e w' ⟨rfl,⟨nd,rfl⟩⟩;refine ⟨_,rfl, ?_⟩;refine hK.out _ _ ⟨((HB.out.cell (dS w _ jo)).trans jo),((HB.out.cell (dS w _ jq)).trans jq),((HB.out.cell (dS w _ jr)).trans jr)⟩ (fun hHeld=> ?_);clear hK K;refine nz 59 ?_;refine oz 17 (some 72) HT_ (fun K hK=> ?_);refine gG Try.func81 #[.slice (some rU) l0.length c0,.int .i64 12] ?_
               with_reducible refine (eu.calls _ _ l0 12 Ie _ ?au ?ax A29.out).mono ?_
               (case au=>exact Kd.aJ HR0.out (bz HB))
               (case ax=>exact mg.out)
               rintro e w' ⟨rfl,⟨nd,rfl⟩⟩;refine ⟨_,rfl, ?_⟩;refine hK.out _ _ ⟨((HB.out.cell (dS w _ jo)).trans jo),((HB.out.cell (dS w _ jq)).trans jq),((HB.out.cell (dS w _ jr)).trans jr)⟩ (fun hHeld=> ?_);clear hK K;refine nz 72 ?_;refine oz 19 (some 74) HT_ (fun K hK=> ?_);refine gG Try.func81 #[.slice (some rU) l0.length c0,.int .i64 16] ?_
               with_reducible refine (eu.calls _ _ l0 16 I8 _ ?au ?ax CB.out).mono ?_
               (case au=>exact Kd.aJ HR0.out (bz HB))
               (case ax=>exact mg.out)
               rintro e w' ⟨rfl,⟨nd,rfl⟩⟩;refine ⟨_,rfl, ?_⟩;refine hK.out _ _ ⟨((HB.out.cell (dS w _ jo)).trans jo),((HB.out.cell (dS w _ jq)).trans jq),((HB.out.cell (dS w _ jr)).trans jr)⟩ (fun hHeld=> ?_);clear hK K;refine nz 74 ?_;refine oz 22 (some 77) HT_ (fun K hK=> ?_);refine goes_ Try.func65 (by kernel_rfl) rfl #[.slice (some rU) l0.length c0,.int .i64 20,.int .i64 (xu)] (by rfl) rfl rfl (by (try simp only [List.map_toArray,List.map_cons,List.map_nil]);first|done|(simp only [GU];rfl)|rfl|(simp only [List.length_drop,List.length_take];rfl)|(go_simp;done)|(simp [Act.eval,IntKind.signed];done)|(simp [Act.eval,IntKind.signed];rfl)) ?_
               with_reducible refine (fK.calls _ _ l0 20 (xu) L6 _ ?au ?ax A31.out).mono ?_
               (case au=>exact Kd.aJ HR0.out (bz HB))
               (case ax=>exact mg.out)
               rintro e w36 ⟨AAJ,rfl,ho0,hb⟩;refine ⟨_,rfl, ?_⟩;have ay:=Aside0.mk (Kd.R_lower ho0 (below_size (bz HB)));have aC:=Aside0.mk (aZ (kz eG) hb);have bg:=Aside0.mk (ag (bz HB) hb);clear eG;clear HB;have NW:=ay;have eG:=aC;have HB:=bg;clear ay aC bg
               (try clear hb)
               (try clear hb2)
               (try clear hk)
               (try clear hi)
               (try clear ho0)
               refine hK.out _ _ ⟨((HB.out.cell (dS w _ jo)).trans jo),((HB.out.cell (dS w _ jq)).trans jq),((HB.out.cell (dS w _ jr)).trans jr)⟩ (fun hHeld=> ?_);clear hK K;refine nz 77 ?_;refine oz 26 (some 81) HT_ (fun K hK=> ?_);refine goes_ Try.func65 (by kernel_rfl) rfl #[.slice (some rU) l0.length c0,.int .i64 (xu),.int .i64 (wrap64 (yZ))] (by rfl) rfl rfl (by (try simp only [List.map_toArray,List.map_cons,List.map_nil]);first|done|(simp only [GU];rfl)|rfl|(simp only [List.length_drop,List.length_take];rfl)|(go_simp;done)|(simp [Act.eval,IntKind.signed];done)|(simp [Act.eval,IntKind.signed];rfl)) ?_
               with_reducible refine (fK.calls _ _ l0 (xu) (wrap64 (yZ)) Nc _ ?au ?ax A32.out).mono ?_
               (case au=>exact Kd.aJ HR0.out (bz HB))
               (case ax=>exact mg.out)
               rintro e w37 ⟨AAK,rfl,ho0,hb⟩;refine ⟨_,rfl, ?_⟩;have ay:=Aside0.mk (Kd.rD (Kd.rz NW) (Kd.nU ho0) hb);have aC:=Aside0.mk (Kd.R_lower (Kd.xy ho0 (Kd.uB (Kd.rz NW))) (below_size (bz HB)));have bg:=Aside0.mk (aZ (kz eG) hb);have dm:=Aside0.mk (ag (bz HB) hb);clear NW;clear eG;clear HB;have NW:=ay;have AgD:=aC;have eG:=bg;have HB:=dm;clear ay aC bg dm
               (try clear hb)
               (try clear hb2)
               (try clear hk)
               (try clear hi)
               (try clear ho0)
               obtain ⟨Aki,Akj,ApF⟩:=Kd.dN AgD.out
               (first|subst ApF|(injection ApF with rF xE rG;have xG:=rF.symm;have xH:=rG.symm;clear rF xE rG;subst xG;subst xH))
               obtain ⟨Pq,GH,UF⟩:=Kd.dN NW.out
               (first|subst UF|(injection UF with rF xE rG;have xG:=rF.symm;have xH:=rG.symm;clear rF xE rG;subst xG;subst xH))
               refine hK.out _ _ ⟨((HB.out.cell (dS w _ jo)).trans jo),((HB.out.cell (dS w _ jq)).trans jq),((HB.out.cell (dS w _ jr)).trans jr)⟩ (fun hHeld=> ?_);clear hK K;refine nz 81 ?_;refine pz 27 82 HT_ ?_;refine oz 28 (none) HT_ (fun K hK=> ?_);have Aym:=xC eG.out;have AvB:=blk_frozen eG.out;refine CJ (w1:= ?_) (by rfl) rfl ?_ ?_
               rotate_left
               ·go_simp
                rfl
               refine hK.out _ _ ⟨((cell_far (p:=⟨fE,_,none⟩) (by first|exact fU jo jc.out|exact fV jo jc.out) _).trans (((cell_far (p:=⟨fE,_,none⟩) (by first|exact fU jo jc.out|exact fV jo jc.out) _).trans (((cell_far (p:=⟨fE,_,none⟩) (by first|exact fU jo jc.out|exact fV jo jc.out) _).trans (((cell_far (p:=⟨fE,_,none⟩) (by first|exact fU jo jc.out|exact fV jo jc.out) _).trans (((cell_far (p:=⟨fE,_,none⟩) (by first|exact fU jo jc.out|exact fV jo jc.out) _).trans (((cell_far (p:=⟨fE,_,none⟩) (by first|exact fU jo jc.out|exact fV jo jc.out) _).trans (((cell_far (p:=⟨fE,_,none⟩) (by first|exact fU jo jc.out|exact fV jo jc.out) _).trans (((cell_far (p:=⟨fE,_,none⟩) (by first|exact fU jo jc.out|exact fV jo jc.out) _).trans (((cell_far (p:=⟨fE,_,none⟩) (by first|exact fU jo jc.out|exact fV jo jc.out) _).trans (((cell_far (p:=⟨fE,_,none⟩) (by first|exact fU jo jc.out|exact fV jo jc.out) _).trans (hHeld.1)))))))))))))))))))),((cell_far (p:=⟨fE,_,none⟩) (by first|exact fU jq jc.out|exact fV jq jc.out) _).trans (((cell_far (p:=⟨fE,_,none⟩) (by first|exact fU jq jc.out|exact fV jq jc.out) _).trans (((cell_far (p:=⟨fE,_,none⟩) (by first|exact fU jq jc.out|exact fV jq jc.out) _).trans (((cell_far (p:=⟨fE,_,none⟩) (by first|exact fU jq jc.out|exact fV jq jc.out) _).trans (((cell_far (p:=⟨fE,_,none⟩) (by first|exact fU jq jc.out|exact fV jq jc.out) _).trans (((cell_far (p:=⟨fE,_,none⟩) (by first|exact fU jq jc.out|exact fV jq jc.out) _).trans (((cell_far (p:=⟨fE,_,none⟩) (by first|exact fU jq jc.out|exact fV jq jc.out) _).trans (((cell_far (p:=⟨fE,_,none⟩) (by first|exact fU jq jc.out|exact fV jq jc.out) _).trans (((cell_far (p:=⟨fE,_,none⟩) (by first|exact fU jq jc.out|exact fV jq jc.out) _).trans (((cell_far (p:=⟨fE,_,none⟩) (by first|exact fU jq jc.out|exact fV jq jc.out) _).trans (hHeld.2.1)))))))))))))))))))),((cell_far (p:=⟨fE,_,none⟩) (by first|exact fU jr jc.out|exact fV jr jc.out) _).trans (((cell_far (p:=⟨fE,_,none⟩) (by first|exact fU jr jc.out|exact fV jr jc.out) _).trans (((cell_far (p:=⟨fE,_,none⟩) (by first|exact fU jr jc.out|exact fV jr jc.out) _).trans (((cell_far (p:=⟨fE,_,none⟩) (by first|exact fU jr jc.out|exact fV jr jc.out) _).trans (((cell_far (p:=⟨fE,_,none⟩) (by first|exact fU jr jc.out|exact fV jr jc.out) _).trans (((cell_far (p:=⟨fE,_,none⟩) (by first|exact fU jr jc.out|exact fV jr jc.out) _).trans (((cell_far (p:=⟨fE,_,none⟩) (by first|exact fU jr jc.out|exact fV jr jc.out) _).trans (((cell_far (p:=⟨fE,_,none⟩) (by first|exact fU jr jc.out|exact fV jr jc.out) _).trans (((cell_far (p:=⟨fE,_,none⟩) (by first|exact fU jr jc.out|exact fV jr jc.out) _).trans (((cell_far (p:=⟨fE,_,none⟩) (by first|exact fU jr jc.out|exact fV jr jc.out) _).trans (hHeld.2.2))))))))))))))))))))⟩ (fun hHeld=> ?_)
               clear hK K;refine pz 29 3 HT_ ?_;refine dz HT_ ?_
               try go_wp2
               refine bodyPost_ret (iJ rfl _ _ fE 73 #[.int .u8 (rd l0 1),.int .u8 (rd l0 8),.int .u8 (rd l0 9),.int .u16 EI,.int .u8 ((yf / 8192) % 256),.int .u16 (Go.bits .and .u16 yf 8191),.int .u32 Ie,.int .u32 I8,.slice Pq L6.length GH,.slice Aki Nc.length Akj] (0,0) _ rfl (by (with_reducible repeat (first|refine aH ?_ _|refine az ?_|refine aG ?_ _));refine bH (cs:= #[.int .u8 (rd l0 1),.int .u8 (rd l0 8),.int .u8 (rd l0 9),.int .u16 EI,.int .u8 ((yf / 8192) % 256),.int .u16 (Go.bits .and .u16 yf 8191),.int .u32 Ie,.int .u32 I8,.slice Pq L6.length GH,.slice none 0 0]) ?_ 9 _ rfl;(with_reducible repeat (first|refine aH ?_ _|refine az ?_|refine aG ?_ _));refine bH (cs:= #[.int .u8 (rd l0 1),.int .u8 (rd l0 8),.int .u8 (rd l0 9),.int .u16 EI,.int .u8 ((yf / 8192) % 256),.int .u16 (Go.bits .and .u16 yf 8191),.int .u32 Ie,.int .u32 I8,.slice none 0 0,.slice none 0 0]) ?_ 8 _ rfl;(with_reducible repeat (first|refine aH ?_ _|refine az ?_|refine aG ?_ _));refine bH (cs:= #[.int .u8 (rd l0 1),.int .u8 (rd l0 8),.int .u8 (rd l0 9),.int .u16 EI,.int .u8 ((yf / 8192) % 256),.int .u16 (Go.bits .and .u16 yf 8191),.int .u32 Ie,.int .u32 0,.slice none 0 0,.slice none 0 0]) ?_ 7 _ rfl;(with_reducible repeat (first|refine aH ?_ _|refine az ?_|refine aG ?_ _));refine bH (cs:= #[.int .u8 (rd l0 1),.int .u8 (rd l0 8),.int .u8 (rd l0 9),.int .u16 EI,.int .u8 ((yf / 8192) % 256),.int .u16 (Go.bits .and .u16 yf 8191),.int .u32 0,.int .u32 0,.slice none 0 0,.slice none 0 0]) ?_ 6 _ rfl;(with_reducible repeat (first|refine aH ?_ _|refine az ?_|refine aG ?_ _));refine bH (cs:= #[.int .u8 (rd l0 1),.int .u8 (rd l0 8),.int .u8 (rd l0 9),.int .u16 EI,.int .u8 ((yf / 8192) % 256),.int .u16 0,.int .u32 0,.int .u32 0,.slice none 0 0,.slice none 0 0]) ?_ 5 _ rfl;(with_reducible repeat (first|refine aH ?_ _|refine az ?_|refine aG ?_ _));refine bH (cs:= #[.int .u8 (rd l0 1),.int .u8 (rd l0 8),.int .u8 (rd l0 9),.int .u16 EI,.int .u8 0,.int .u16 0,.int .u32 0,.int .u32 0,.slice none 0 0,.slice none 0 0]) ?_ 4 _ rfl;(with_reducible repeat (first|refine aH ?_ _|refine az ?_|refine aG ?_ _));refine bH (cs:= #[.int .u8 (rd l0 1),.int .u8 (rd l0 8),.int .u8 (rd l0 9),.int .u16 0,.int .u8 0,.int .u16 0,.int .u32 0,.int .u32 0,.slice none 0 0,.slice none 0 0]) ?_ 3 _ rfl;(with_reducible repeat (first|refine aH ?_ _|refine az ?_|refine aG ?_ _));refine bH (cs:= #[.int .u8 (rd l0 1),.int .u8 (rd l0 8),.int .u8 0,.int .u16 0,.int .u8 0,.int .u16 0,.int .u32 0,.int .u32 0,.slice none 0 0,.slice none 0 0]) ?_ 2 _ rfl;(with_reducible repeat (first|refine aH ?_ _|refine az ?_|refine aG ?_ _));refine bH (cs:= #[.int .u8 (rd l0 1),.int .u8 0,.int .u8 0,.int .u16 0,.int .u8 0,.int .u16 0,.int .u32 0,.int .u32 0,.slice none 0 0,.slice none 0 0]) ?_ 1 _ rfl;(with_reducible repeat (first|refine aH ?_ _|refine az ?_|refine aG ?_ _));refine bH (cs:= #[.int .u8 0,.int .u8 0,.int .u8 0,.int .u16 0,.int .u8 0,.int .u16 0,.int .u32 0,.int .u32 0,.slice none 0 0,.slice none 0 0]) ?_ 0 _ rfl;(with_reducible repeat (first|refine aH ?_ _|refine az ?_|refine aG ?_ _));exact eG.out) Try.underlying73 rfl (by kernel_rfl)) rfl ?_
               exact ⟨_,_,by first|rfl|(simp [ae,af]<;>rfl)|(simp only [<- GU];first|rfl|(simp [ae,af]<;>rfl))|(simp [*,ae,af]<;>rfl),by (with_reducible repeat (first|apply Kd.ik|apply Kd.gV|apply Kd.iq));exact Kd.R_mono (Kd.gB (p:=⟨fE,9,none⟩) (Kd.gB (p:=⟨fE,8,none⟩) (Kd.gB (p:=⟨fE,7,none⟩) (Kd.gB (p:=⟨fE,6,none⟩) (Kd.gB (p:=⟨fE,5,none⟩) (Kd.gB (p:=⟨fE,4,none⟩) (Kd.gB (p:=⟨fE,3,none⟩) (Kd.gB (p:=⟨fE,2,none⟩) (Kd.gB (p:=⟨fE,1,none⟩) (Kd.gB (p:=⟨fE,0,none⟩) (Kd.qY NW.out eG.out (by decide)) (fun _ hk=>hk.2) (.int .u8 (rd l0 1))) (fun _ hk=>hk.2) (.int .u8 (rd l0 8))) (fun _ hk=>hk.2) (.int .u8 (rd l0 9))) (fun _ hk=>hk.2) (.int .u16 EI)) (fun _ hk=>hk.2) (.int .u8 ((yf / 8192) % 256))) (fun _ hk=>hk.2) (.int .u16 (Go.bits .and .u16 yf 8191))) (fun _ hk=>hk.2) (.int .u32 Ie)) (fun _ hk=>hk.2) (.int .u32 I8)) (fun _ hk=>hk.2) (.slice Pq L6.length GH)) (fun _ hk=>hk.2) (.slice Aki Nc.length Akj)) (fun _ hk=>hk.1.2),by (with_reducible repeat (first|apply Kd.ik|apply Kd.gV|apply Kd.iq));exact Kd.R_mono (Kd.gB (p:=⟨fE,9,none⟩) (Kd.gB (p:=⟨fE,8,none⟩) (Kd.gB (p:=⟨fE,7,none⟩) (Kd.gB (p:=⟨fE,6,none⟩) (Kd.gB (p:=⟨fE,5,none⟩) (Kd.gB (p:=⟨fE,4,none⟩) (Kd.gB (p:=⟨fE,3,none⟩) (Kd.gB (p:=⟨fE,2,none⟩) (Kd.gB (p:=⟨fE,1,none⟩) (Kd.gB (p:=⟨fE,0,none⟩) (Kd.qY AgD.out eG.out (by decide)) (fun _ hk=>hk.2) (.int .u8 (rd l0 1))) (fun _ hk=>hk.2) (.int .u8 (rd l0 8))) (fun _ hk=>hk.2) (.int .u8 (rd l0 9))) (fun _ hk=>hk.2) (.int .u16 EI)) (fun _ hk=>hk.2) (.int .u8 ((yf / 8192) % 256))) (fun _ hk=>hk.2) (.int .u16 (Go.bits .and .u16 yf 8191))) (fun _ hk=>hk.2) (.int .u32 Ie)) (fun _ hk=>hk.2) (.int .u32 I8)) (fun _ hk=>hk.2) (.slice Pq L6.length GH)) (fun _ hk=>hk.2) (.slice Aki Nc.length Akj)) (fun _ hk=>hk.1.2),bz HB⟩
              ·rw [aj c28] at H
               cases H
             ·rw [aj c27] at H
              cases H
            ·rw [aj c25] at H
             cases H
           ·rw [aj c23] at H
            have ZB:(Ic==65535)=false:=iM c23;have Ae4:(Ic !=65535)=true:=pq c23;simp only [Option.some.injEq,Prod.mk.injEq] at H
            obtain ⟨rfl,rfl,rfl,rfl,rfl,rfl,rfl,rfl,rfl,rfl,rfl⟩:=H;obtain ⟨AAL,AgE,_,AgF,_⟩:=info_parts info5;obtain ⟨AvC,ApG,ApH⟩:=uA (P:=Try.prog) (Value.int .u8) 0 23 5 .i64 Try.underlying23 AgE AgF (some rU) c0 l0 (xu) je je mg.out;have AbW:=Aside0.mk (Kd.dR (h1:=fun _=>rfl) (ApG _ (Kd.dO HR0.out)));have AbX:=Aside0.mk ApH;clear ApG ApH AgE AgF
            go_wp2_with (first|((with_reducible refine ai (f:=80) rfl ?_);refine zQ (some 49) rfl rfl Try.func80 (by kernel_rfl) rfl #[.int .u32 0,.slice (some rU) (l0.take ((xu):Int).toNat).length c0] rfl (by (try simp only [List.map_toArray,List.map_cons,List.map_nil]);first|done|(rw [show (l0.take ((xu):Int).toNat).length=(xu).toNat from (by rw [List.length_take];have h_:((xu):Int)<=(l0.length:Int):=je;omega)]<;>rfl)|(simp only [GU];rfl)|rfl|(simp only [List.length_drop,List.length_take];rfl)|(go_simp;done)|(simp [Act.eval,IntKind.signed];done)|(simp [Act.eval,IntKind.signed];rfl)) ?_;(with_reducible refine (bM.calls Tv 0 _ _ (l0.take ((xu):Int).toNat) I7 _ ?au ?ax A21.out).mono ?_);(case au=>exact Kd.aJ AbW.out (bz HB));(case ax=>exact AbX.out);rintro e Vh ⟨rfl,hb⟩;refine ⟨_,rfl, ?_⟩;have ay:=Aside0.mk (aZ (kz eG) hb);have aC:=Aside0.mk (ag (bz HB) hb);clear eG;clear HB;have eG:=ay;have HB:=aC;clear ay aC;(try clear hb);(try clear hb2);(try clear hk);(try clear hi))|((with_reducible refine ai (f:=79) rfl ?_);refine gL 50 Try.func79 #[.int .u32 I7] ?_;(with_reducible refine (bF.calls Tv I7 Ic _ A22.out).mono ?_);rintro e w' ⟨rfl,⟨nd,rfl⟩⟩;refine ⟨_,rfl, ?_⟩;(try (rw [iC Vh];generalize nO:World.drewN Vh _=Vh;have ay:Aside0 (Vh.heap[fE]?=some (.cells #[.int .u8 0,.int .u8 0,.int .u8 0,.int .u16 0,.int .u8 0,.int .u16 0,.int .u32 0,.int .u32 0,.slice none 0 0,.slice none 0 0] 73 (0,0))):=⟨by rw [<- nO];exact (kz eG)⟩;have aC:Aside0 (Below w.heap.size w Vh):=⟨by rw [<- nO];exact bz HB⟩;clear eG HB nO;have eG:=ay;have HB:=aC;clear ay aC));have Asd:Vh.cell? ⟨fE,0,none⟩=some (.int .u8 0):=cz eG.out 0 rfl;have Ase:Vh.cell? ⟨fE,1,none⟩=some (.int .u8 0):=cz eG.out 1 rfl;have Asf:Vh.cell? ⟨fE,2,none⟩=some (.int .u8 0):=cz eG.out 2 rfl;have Asg:Vh.cell? ⟨fE,3,none⟩=some (.int .u16 0):=cz eG.out 3 rfl;have Ash:Vh.cell? ⟨fE,4,none⟩=some (.int .u8 0):=cz eG.out 4 rfl;have Asi:Vh.cell? ⟨fE,5,none⟩=some (.int .u16 0):=cz eG.out 5 rfl;have Asj:Vh.cell? ⟨fE,6,none⟩=some (.int .u32 0):=cz eG.out 6 rfl;have Ask:Vh.cell? ⟨fE,7,none⟩=some (.int .u32 0):=cz eG.out 7 rfl;have Asl:Vh.cell? ⟨fE,8,none⟩=some (.slice none 0 0):=cz eG.out 8 rfl;have Asm:Vh.cell? ⟨fE,9,none⟩=some (.slice none 0 0):=cz eG.out 9 rfl;have Asn:=blk_frozen eG.out 0;have Aso:=blk_frozen eG.out 1;have Asp:=blk_frozen eG.out 2;have Asq:=blk_frozen eG.out 3;have Asr:=blk_frozen eG.out 4;have Ass:=blk_frozen eG.out 5;have Ast:=blk_frozen eG.out 6;have Asu:=blk_frozen eG.out 7;have Asv:=blk_frozen eG.out 8;have Asw:=blk_frozen eG.out 9))
            refine bodyPost_ret (iJ rfl _ _ fE 73 #[.int .u8 0,.int .u8 0,.int .u8 0,.int .u16 0,.int .u8 0,.int .u16 0,.int .u32 0,.int .u32 0,.slice none 0 0,.slice none 0 0] (0,0) _ rfl (by (repeat (first|with_reducible refine aH ?_ _|with_reducible refine az ?_|with_reducible refine aG ?_ _|refine bH (cs:= #[.int .u8 0,.int .u8 0,.int .u8 0,.int .u16 0,.int .u8 0,.int .u16 0,.int .u32 0,.int .u32 0,.slice none 0 0,.slice none 0 0]) ?_ _ _ rfl));(with_reducible repeat (first|refine aH ?_ _|refine az ?_|refine aG ?_ _));exact eG.out) Try.underlying73 rfl (by kernel_rfl)) rfl ?_
            exact ⟨_,_,by first|rfl|(simp [ae,af]<;>rfl)|(simp only [<- GU];first|rfl|(simp [ae,af]<;>rfl))|(simp [*,ae,af]<;>rfl),by first|exact Kd.bV _ _ _ _ _|exact Kd.lV _ _ _ _ _|exact Kd.lW _ _ _ _ _|exact Kd.lT _ _ _ _ _|exact Kd.lU _ _ _ _ _,by first|exact Kd.bV _ _ _ _ _|exact Kd.lV _ _ _ _ _|exact Kd.lW _ _ _ _ _|exact Kd.lT _ _ _ _ _|exact Kd.lU _ _ _ _ _,bz HB⟩
          ·rw [aj c20] at H
           cases H
         ·rw [aj c19] at H
          cases H
  ·rw [aj c5] at H
   cases H
end Go.Proofs.Ytkmimamminddiaa.PB
namespace Go.Proofs.Ytkmimamminddiaa.Pure
open Go.RowKit Go.Proofs.Ytkmimamminddiaa.PB Go.Proofs.YtkmimamminddiaaW.PrintWords Go.Proofs.YtkmimamminddiaaW.PrintLast
open Go.Proofs.Ytkmimamminddiaa.Spec Go.Proofs.Ytkmimamminddiaa.BytesEq Go.Proofs.Ytkmimamminddiaa.uJ
theorem JH {l:List Int} (h:jX l) (i:Nat) (hi:i+2<=l.length) (hl:l.length<=1000000000):dQ.f l (i:Int)=some (g16 l i):=kG h i hi hl
theorem Tz {l:List Int} (h:jX l) (i:Nat) (hi:i+4<=l.length) (hl:l.length<=1000000000):lD.f l (i:Int)=some (yD l i):=xq h i hi hl
theorem NY (l:List Int) (hl:l.length<=1000000000):jY.f l=some l:=by
 unfold jY.f;rw [ah (by omega)]
theorem Mc {c:Prop} [Decidable c] (h:c) (e:Int):fB.f (decide c) e=some ():=by
 unfold fB.f;rw [bJ h,ah rfl]
theorem AgG (i:Nat) (hi:i<=16) {x:Int} (h₀:0<=x) (h₁:x<=65535):Go.bits .and .u16 x (2 ^ i - 1)=x % 2 ^ i:=bits_mask .u16 16 (by decide) wraps_u16 i hi x h₀ (by omega)
def eY (l:List Int):Int:=4*(l.getD 0 0 % 16)
theorem tJ (l:List Int):0<=eY l /\ eY l<=60:=by unfold eY;omega
theorem Md {l:List Int} (h:jX l):wrap64 (4*(wrap64 (Go.bits .and .u8 (rd l 0) 15)))=eY l:=by
 have hg:=h.getD 0;have ea:Go.bits .and .u8 (rd l 0) 15=l.getD 0 0 % 16:=by rw [jR l 0 0 rfl];exact AbB 4 (by omega) hg.1 hg.2
 rw [ea,bQ (n:=l.getD 0 0 % 16) (by omega) (by omega),bQ (by omega) (by omega)]
 rfl
theorem NZ {l:List Int} (h:jX l):wrap64 ((wrap64 (Go.bits .and .u8 (rd l 0) 15))*4)=eY l:=by
 have hg:=h.getD 0;have ea:Go.bits .and .u8 (rd l 0) 15=l.getD 0 0 % 16:=by rw [jR l 0 0 rfl];exact AbB 4 (by omega) hg.1 hg.2
 rw [ea,bQ (n:=l.getD 0 0 % 16) (by omega) (by omega),bQ (by omega) (by omega)];unfold eY;omega
def Me (l:List Int):Int:=norm (uI (words (l.take (eY l).toNat)))
def Vj (l:List Int):Prop:=¬ (l.getD 0 0 / 16=4 /\ eY l>=20 /\ g16 l 2>=eY l)
instance (l:List Int):Decidable (Vj l):=inferInstanceAs (Decidable (¬ _))
def Akk (l:List Int):Int×Int×Int×Int×Int×Int×Int×Int×List Int×List Int:=
 (l.getD 1 0,l.getD 8 0,l.getD 9 0,g16 l 4,g16 l 6 / 8192,g16 l 6 % 8192,yD l 12,yD l 16,(l.take (eY l).toNat).drop 20,(l.take (g16 l 2).toNat).drop (eY l).toNat)
def Vk (l:List Int):Int×Int×Int×Int×Int×Int×Int×Int×List Int×List Int×Int:=
 if l.length<20 then (0,0,0,0,0,0,0,0,[],[],20) else if Vj l then (0,0,0,0,0,0,0,0,[],[],21) else if (l.length:Int)<g16 l 2 then (0,0,0,0,0,0,0,0,[],[],20) else if Me l≠65535 then (0,0,0,0,0,0,0,0,[],[],22) else
 (l.getD 1 0,l.getD 8 0,l.getD 9 0,g16 l 4,g16 l 6 / 8192,g16 l 6 % 8192,yD l 12,yD l 16,(l.take (eY l).toNat).drop 20,(l.take (g16 l 2).toNat).drop (eY l).toNat,0)
theorem Yt {l:List Int} (h:jX l) (hl:l.length<=1000000000) (k:Nat) (hk:l.length+4<k):((jw.f k 0 l).bind fun a=>fP.f k a)=some (norm (uI (words l))):=by
 have hr:=qA (words l) 0 (by omega) (by omega) (iW l h);have hn:=uk (words l) 0 (by omega) (by omega) (iW l h);rw [add_eq 0 l h hl (by omega) (by omega) k (by omega),bG,fold_eq _ hr.1 hr.2 k (by omega),hn,Int.zero_add]
theorem N9 {l:List Int} (h:jX l) (hl:l.length<=1000000000) (k:Nat) (hk:l.length+4<k):∃ a,jw.f k 0 l=some a /\ fP.f k a=some (norm (uI (words l))):=dM (Yt h hl k hk)
theorem Vl {l:List Int} (h:jX l) (hl:l.length<=1000000000) (k:Nat) (hk:l.length+4<k):∃ a,bM.f k 0 l=some a /\ bF.f k a=some (norm (uI (words l))):=by
 have hr:=qA (words l) 0 (by omega) (by omega) (iW l h);have hn:=uk (words l) 0 (by omega) (by omega) (iW l h);refine ⟨_,Eg 0 l h hl (by omega) (by omega) k (by omega), ?_⟩;rw [yQ _ hr.1 hr.2 k (by omega),hn,Int.zero_add]
theorem Vm {l:List Int} (h:jX l) (hl:l.length<=1000000000) (h20:20<=l.length) (ho:¬ Vj l) (hs:¬ (l.length:Int)<g16 l 2) (hx:Me l=65535) (k:Nat) (hk:l.length+5<k):aQ.f k l=some (Akk l):=by
 obtain ⟨k,rfl⟩:∃ j,k=j+1:=⟨k - 1,by omega⟩
 have hh:=tJ l;have hg:=iY h 2;have hb6:=iY h 6;have ho':l.getD 0 0 / 16=4 /\ eY l>=20 /\ g16 l 2>=eY l:=Decidable.not_not.mp ho;obtain ⟨o1,o2,o3⟩:=ho';have p0:0<=eY l:=hh.1;have p1:eY l<=(l.length:Int):=by omega
 have p2:(0:Int)<(l.length:Int):=by omega
 have p3:(1:Int)<(l.length:Int):=by omega
 have p4:(8:Int)<(l.length:Int):=by omega
 have p5:(9:Int)<(l.length:Int):=by omega
 have p6:g16 l 2<=(l.length:Int):=by omega
 have p7:((l.take (eY l).toNat).drop 20).length<=1000000000:=by rw [List.length_drop,List.length_take];omega
 have p8:((l.take (g16 l 2).toNat).drop (eY l).toNat).length<=1000000000:=by rw [List.length_drop,List.length_take];omega
 have p9:(l.length:Int)>=20:=by omega
 have m1:fB.f (decide ((l.length:Int)>=20)) 20=some ():=Mc p9 20;have m2:fB.f (decide (g16 l 2>=eY l)) 21=some ():=Mc o3 21;have m3:fB.f (decide ((l.length:Int)>=g16 l 2)) 20=some ():=Mc p6 20;have e2:=JH h 2 (by omega) hl;have e4:=JH h 4 (by omega) hl;have e6:=JH h 6 (by omega) hl;have e12:=Tz h 12 (by omega) hl;have e16:=Tz h 16 (by omega) hl;rw [show ((2:Nat):Int)=2 from rfl] at e2
 rw [show ((4:Nat):Int)=4 from rfl] at e4
 rw [show ((6:Nat):Int)=6 from rfl] at e6
 rw [show ((12:Nat):Int)=12 from rfl] at e12
 rw [show ((16:Nat):Int)=16 from rfl] at e16
 have r0:rd l 0=l.getD 0 0:=jR l 0 0 rfl;have r1:rd l 1=l.getD 1 0:=jR l 1 1 rfl;have r8:rd l 8=l.getD 8 0:=jR l 8 8 rfl;have r9:rd l 9=l.getD 9 0:=jR l 9 9 rfl;have w2:wrap64 (g16 l 2)=g16 l 2:=bQ (by omega) (by omega);have hd:=Md h;obtain ⟨a,fa,fb⟩:=N9 (h.take (eY l).toNat) (by rw [List.length_take];omega) k (by rw [List.length_take];omega);have fx:norm (uI (words (l.take (eY l).toNat)))=65535:=hx;rw [fx] at fb
 have m22:fB.f ((65535:Int)==65535) 22=some ():=by unfold fB.f;rw [ah (by decide)]
 have ef:g16 l 6 / 8192 % 256=g16 l 6 / 8192:=by omega
 have ea:Go.bits .and .u16 (g16 l 6) 8191=g16 l 6 % 8192:=AgG 13 (by omega) hb6.1 hb6.2;unfold aQ.f
 rw [m1,bG,ah p2,e2,bG,hd,w2,r0,ah o1,ah o2,m2,bG,aQ.j0,m3,bG,ah p0,ah p1,fa,bG,fb,bG,m22,bG,e6,bG,ah p3,e4,bG,ah p4,ah p5,e12,bG,e16,bG,ah o2,
  NY _ p7,bG,ah o3,ah p6,NY _ p8,bG,r1,r8,r9,ef,ea]
 rfl
theorem Ib {l:List Int} (h:jX l) (hl:l.length<=1000000000) (k:Nat) (hk:l.length+5<k):dL.f k l=some (Vk l):=by
 have hh:=tJ l;have hg:=iY h 2;have hd:=Md h;have r0:rd l 0=l.getD 0 0:=jR l 0 0 rfl;unfold dL.f Vk
 by_cases c1:l.length<20
 ·rw [ah (by omega),ah c1]
 ·have e2:=JH h 2 (by omega) hl
  rw [show ((2:Nat):Int)=2 from rfl] at e2
  have w2:wrap64 (g16 l 2)=g16 l 2:=bQ (by omega) (by omega);rw [aj (by omega),aj c1,e2,bG,hd,w2,r0]
  by_cases c2:Vj l
  ·rw [aj c2,ah c2]
  ·rw [ah (Decidable.not_not.mp c2),aj c2]
   by_cases c3:(l.length:Int)<g16 l 2
   ·rw [ah c3,ah c3]
   ·rw [aj c3,aj c3]
    obtain ⟨a,fa,fb⟩:=N9 (h.take (eY l).toNat) (by rw [List.length_take];omega) k (by rw [List.length_take];omega);rw [fa,bG,fb,bG]
    by_cases c4:Me l=65535
    ·have fx:norm (uI (words (l.take (eY l).toNat)))=65535:=c4
     rw [ah fx,aj (fun hne=>hne c4),Vm h hl (by omega) c2 c3 c4 k hk,bG]
     rfl
    ·have fx:¬ norm (uI (words (l.take (eY l).toNat)))=65535:=c4
     rw [aj fx,ah c4]
theorem yU {l:List Int} (h:jX l) (hl:l.length<=1000000000) (k:Nat) (hk:l.length+9<k):bu.f k l=some (Vk l):=by
 obtain ⟨k,rfl⟩:∃ j,k=j+2:=⟨k - 2,by omega⟩
 have hh:=tJ l;have hg:=iY h 2;have hb6:=iY h 6;have hd:=NZ h;have r0:rd l 0=l.getD 0 0:=jR l 0 0 rfl;unfold bu.f Vk
 by_cases c1:l.length<20
 ·rw [ah (by omega),ah c1]
 ·have e2:=kG h 2 (by omega) hl
  rw [show ((2:Nat):Int)=2 from rfl] at e2
  have w2:wrap64 (g16 l 2)=g16 l 2:=bQ (by omega) (by omega);rw [aj (by omega),aj c1,ah (by omega),e2,bG,hd,w2,r0]
  by_cases c2:Vj l
  ·rw [ah c2]
   by_cases d1:l.getD 0 0 / 16=4
   ·rw [ah d1]
    by_cases d2:eY l<20
    ·rw [ah d2,bu.j0,ah rfl]
    ·have d3:g16 l 2<eY l:=by
      refine Decidable.byContradiction fun hne=>c2 ⟨d1,by omega,by omega⟩
     rw [aj d2,bJ d3,bu.j0,ah rfl]
   ·rw [aj d1,bu.j0,ah rfl]
  ·have ho':l.getD 0 0 / 16=4 /\ eY l>=20 /\ g16 l 2>=eY l:=Decidable.not_not.mp c2
   obtain ⟨o1,o2,o3⟩:=ho';rw [aj c2,ah o1,aj (by omega),jC (by omega),bu.j0,aj (by decide)]
   by_cases c3:(l.length:Int)<g16 l 2
   ·rw [ah c3]
    by_cases d4:(l.length:Int)<eY l
    ·rw [ah d4,bu.j1,ah rfl]
    ·rw [aj d4,bJ c3,bu.j1,ah rfl]
   ·rw [aj c3,aj (by omega),jC c3,bu.j1,aj (by decide),ah (by omega),ah (by omega)]
    obtain ⟨a,fa,fb⟩:=Vl (h.take (eY l).toNat) (by rw [List.length_take];omega) k (by rw [List.length_take];omega);rw [fa,bG,fb,bG]
    by_cases c4:Me l=65535
    ·have fx:norm (uI (words (l.take (eY l).toNat)))=65535:=c4
     have e4:=kG h 4 (by omega) hl;have e6:=kG h 6 (by omega) hl;have e12:=xq h 12 (by omega) hl;have e16:=xq h 16 (by omega) hl;rw [show ((4:Nat):Int)=4 from rfl] at e4
     rw [show ((6:Nat):Int)=6 from rfl] at e6
     rw [show ((12:Nat):Int)=12 from rfl] at e12
     rw [show ((16:Nat):Int)=16 from rfl] at e16
     have r1:rd l 1=l.getD 1 0:=jR l 1 1 rfl;have r8:rd l 8=l.getD 8 0:=jR l 8 8 rfl;have r9:rd l 9=l.getD 9 0:=jR l 9 9 rfl;have f1:=H9 l 20 (eY l).toNat (by omega) (by omega) hl;have f2:=H9 l (eY l).toNat (g16 l 2).toNat (by omega) (by omega) hl;rw [show ((20:Nat):Int)=20 from rfl,Int.toNat_of_nonneg (by omega)] at f1
     rw [Int.toNat_of_nonneg (by omega),Int.toNat_of_nonneg (by omega)] at f2
     have ef:g16 l 6 / 8192 % 256=g16 l 6 / 8192:=by omega
     have ea:Go.bits .and .u16 (g16 l 6) 8191=g16 l 6 % 8192:=AgG 13 (by omega) hb6.1 hb6.2;rw [ah fx,aj (fun hne=>hne c4),e6,bG,ah (by omega),e4,bG,ah (by omega),ah (by omega),e12,bG,e16,bG,f1,bG,f2,bG,r1,r8,r9,ef,ea]
    ·have fx:¬ norm (uI (words (l.take (eY l).toNat)))=65535:=c4
     rw [aj fx,ah c4]
theorem both {l:List Int} (h:jX l) (hl:l.length<=1000000000) (k:Nat) (hk:l.length+9<k):∃ s,dL.f k l=some s /\ bu.f k l=some s /\ s=Vk l:=⟨_,Ib h hl k (by omega),yU h hl k hk,rfl⟩
def TA (a t pr i fl of_ s d:Int) (o l:List Int) (x:Int):List Int:=[64+(20+(o.length:Int)) / 4,a,(20+(o.length:Int)+(l.length:Int)) / 256 % 256,(20+(o.length:Int)+(l.length:Int)) % 256,i / 256 % 256,i % 256,(fl*8192+of_) / 256 % 256,(fl*8192+of_) % 256,t,pr,x / 256 % 256,x % 256,s / 16777216 % 256,s / 65536 % 256,s / 256 % 256,s % 256,d / 16777216 % 256,d / 65536 % 256,d / 256 % 256,d % 256]
theorem wS (a t pr i fl of_ s d:Int) (o l:List Int) (x:Int):(TA a t pr i fl of_ s d o l x).length=20:=rfl
def ick (a t pr i fl of_ s d:Int) (o l:List Int):Int:=ck (TA a t pr i fl of_ s d o l 0++o)
def kV (a t pr i fl of_ s d:Int) (o l:List Int):List Int:=TA a t pr i fl of_ s d o l (ick a t pr i fl of_ s d o l)++o++l
def Cb (fl of_:Int) (o:List Int):Prop:=(o.length:Int) % 4≠0 \/ (o.length:Int)>40 \/ fl>7 \/ of_>8191
instance (fl of_:Int) (o:List Int):Decidable (Cb fl of_ o):=inferInstanceAs (Decidable (_ \/ _))
def iout (a t pr i fl of_ s d:Int) (o l:List Int):List Int×Int:=if Cb fl of_ o then ([],21) else if 20+(o.length:Int)+(l.length:Int)>65535 then ([],23) else (kV a t pr i fl of_ s d o l,0)
section
variable {a t pr i fl of_ s d:Int} {o l:List Int}
theorem P8 (ha:0<=a /\ a<=255) (ht:0<=t /\ t<=255) (hp:0<=pr /\ pr<=255) (ho:(o.length:Int)<=40) (x:Int):jX (TA a t pr i fl of_ s d o l x):=by
 unfold TA
 repeat (first|exact .nil|refine .cons (by omega) ?_)
theorem Vo (ha:0<=a /\ a<=255) (ht:0<=t /\ t<=255) (hp:0<=pr /\ pr<=255) (ho:jX o) (NT:(o.length:Int)<=40) (hl:l.length<=1000000000) (k:Nat) (hk:100<=k) {H:List Int} (hH:H=TA a t pr i fl of_ s d o l 0):
  ig.l0 (k+1) H [s,d] 2 2 a t pr i fl of_ s d o l=some (kV a t pr i fl of_ s d o l,0):=by
 subst hH;have hn:(TA a t pr i fl of_ s d o l 0++o).length=20+o.length:=by rw [List.length_append,wS]
 have hset:((TA a t pr i fl of_ s d o l 0++o).set (10:Int).toNat (ick a t pr i fl of_ s d o l / 256 % 256)).set (11:Int).toNat (ick a t pr i fl of_ s d o l % 256)=TA a t pr i fl of_ s d o l (ick a t pr i fl of_ s d o l)++o:=rfl;have hof:uy.f k (TA a t pr i fl of_ s d o l 0++o)=some (ick a t pr i fl of_ s d o l):=of_eq _ ((P8 ha ht hp NT 0).append ho) (by rw [hn];omega) k (by rw [hn];omega) (by omega);have hn2:(TA a t pr i fl of_ s d o l (ick a t pr i fl of_ s d o l)++o).length=20+o.length:=by rw [List.length_append,wS]
 rw [ig.l0,aj (by omega),ah (by rw [wS];omega),bG,hof,bG,ah (by rw [hn];omega),ah (by rw [hn];omega),bG,hset,ah (by rw [hn2];omega)]
 rfl
theorem ior (h4:(o.length:Int) % 4=0) (NT:(o.length:Int)<=40):Go.bits .or .u8 64 ((wrap64 (Int.tdiv (20+(o.length:Int)) 4)) % 256)=64+(20+(o.length:Int)) / 4:=by
 have e:(wrap64 (Int.tdiv (20+(o.length:Int)) 4)) % 256=(20+(o.length:Int)) / 4:=by
  rw [Int.tdiv_eq_ediv_of_nonneg (by omega),bQ (by omega) (by omega)];omega
 rw [e];exact Apk 6 (by omega) (by omega) (by omega) (by omega) (by omega) (by omega)
theorem AgH (hf:0<=fl /\ fl<=7) (ho:0<=of_ /\ of_<=8191):Go.bits .or .u16 (IntKind.u16.wrap ((IntKind.u16.wrap fl)*8192)) of_=fl*8192+of_:=by
 rw [FB (n:=fl) (by omega) (by omega),FB (n:=fl*8192) (by omega) (by omega)];exact AbC 13 (by omega) (by omega) (by omega) (by omega) (by omega) (by omega)
theorem NU (ha:0<=a /\ a<=255) (ht:0<=t /\ t<=255) (hp:0<=pr /\ pr<=255) (hf:0<=fl) (hg:0<=of_) (ho:jX o) (hol:o.length<=1000000000) (hl:l.length<=1000000000) (k:Nat) (hk:200<=k):ig.f k a t pr i fl of_ s d o l=some (iout a t pr i fl of_ s d o l):=by
 obtain ⟨k,rfl⟩:∃ j,k=j+5:=⟨k - 5,by omega⟩
 have w1:wrap64 (20+(o.length:Int))=20+(o.length:Int):=bQ (by omega) (by omega);unfold ig.f;rw [w1]
 by_cases cw:Cb fl of_ o
 ·have hx:iout a t pr i fl of_ s d o l=([],21):=by unfold iout;rw [ah cw]
  rw [hx]
  by_cases c1:(o.length:Int) % 4=0
  ·rw [ah c1]
   by_cases c2:(o.length:Int)>40
   ·rw [ah c2,ig.j0,ah rfl]
   ·rw [aj c2]
    by_cases c3:fl>7
    ·rw [ah c3,ig.j0,ah rfl]
    ·have c4:of_>8191:=by unfold Cb at cw;omega
     rw [aj c3,bJ c4,ig.j0,ah rfl]
  ·rw [aj c1,ig.j0,ah rfl]
 ·have cx:(o.length:Int) % 4=0 /\ (o.length:Int)<=40 /\ fl<=7 /\ of_<=8191:=by unfold Cb at cw;omega
  obtain ⟨x1,x2,x3,x4⟩:=cx;have w2:wrap64 (65535 - (20+(o.length:Int)))=65535 - (20+(o.length:Int)):=bQ (by omega) (by omega);rw [ah x1,aj (by omega),aj (by omega),jC (by omega),ig.j0,aj (by decide),w2];unfold iout;rw [aj cw]
  by_cases c5:20+(o.length:Int)+(l.length:Int)>65535
  ·rw [ah (by omega),ah c5]
  ·rw [aj (by omega),aj c5,bG]
   have w3:wrap64 (20+(o.length:Int)+(l.length:Int))=20+(o.length:Int)+(l.length:Int):=bQ (by omega) (by omega);have hlen:(([s,d]:List Int).length:Int)=2:=rfl;have r0:rd [s,d] 0=s:=rfl;have r1:rd [s,d] 1=d:=rfl;have n1:wrap64 (0+1)=1:=bQ (by omega) (by omega);have n2:wrap64 (1+1)=2:=bQ (by omega) (by omega);rw [ior x1 x2,AgH ⟨hf,x3⟩ ⟨hg,x4⟩,w3,hlen];rw [ig.l0,ah (by omega),ah (by omega),hlen,ah (by omega),r0,bG,ah (by simp),n1];rw [ig.l0,ah (by omega),ah (by omega),hlen,ah (by omega),r1,bG,ah (by simp),n2];exact Vo ha ht hp ho x2 hl _ (by omega) rfl
theorem MB (l:List Int) (x:Int) (h:l.length<=1000000000):aY.f l x=some (l++[x / 256 % 256,x % 256]):=by
 unfold aY.f;rw [bG,ah (by simp;omega)]
theorem TB (l:List Int) (x:Int) (h:l.length<=1000000000):dZ.f l x=some (l++[x / 16777216 % 256,x / 65536 % 256,x / 256 % 256,x % 256]):=by
 unfold dZ.f;rw [bG,ah (by simp;omega)]
theorem TC (ha:0<=a /\ a<=255) (ht:0<=t /\ t<=255) (hp:0<=pr /\ pr<=255) (ho:jX o) (NT:(o.length:Int)<=40) (hl:l.length<=1000000000) (k:Nat) (hk:100<=k) {y:List Int} (hy:y=TA a t pr i fl of_ s d o l 0++o):
  ((some (y:List Int)).bind fun Aev=>((kN.f k Aev).bind fun ApI=>(if 10<(Aev.length:Int) then (if 11<(Aev.length:Int) then ((some ((Aev.set (10:Int).toNat ((ApI / 256) % 256)).set (11:Int).toNat ((ApI) % 256):List Int)).bind fun ApJ=>(if ApJ.length+l.length<140737488355328 then (some ((ApJ++l),(0:Int))) else (none))) else (none)) else (none))))=some (kV a t pr i fl of_ s d o l,0):=by
 subst hy;have hn:(TA a t pr i fl of_ s d o l 0++o).length=20+o.length:=by rw [List.length_append,wS]
 have hset:((TA a t pr i fl of_ s d o l 0++o).set (10:Int).toNat (ick a t pr i fl of_ s d o l / 256 % 256)).set (11:Int).toNat (ick a t pr i fl of_ s d o l % 256)=TA a t pr i fl of_ s d o l (ick a t pr i fl of_ s d o l)++o:=rfl;have hof:kN.f k (TA a t pr i fl of_ s d o l 0++o)=some (ick a t pr i fl of_ s d o l):=AbJ _ ((P8 ha ht hp NT 0).append ho) (by rw [hn];omega) k (by rw [hn];omega) (by omega);have hn2:(TA a t pr i fl of_ s d o l (ick a t pr i fl of_ s d o l)++o).length=20+o.length:=by rw [List.length_append,wS]
 rw [bG,hof,bG,ah (by rw [hn];omega),ah (by rw [hn];omega),bG,hset,ah (by rw [hn2];omega)]
 rfl
theorem tC (ha:0<=a /\ a<=255) (ht:0<=t /\ t<=255) (hp:0<=pr /\ pr<=255) (hf:0<=fl) (hg:0<=of_) (ho:jX o) (hol:o.length<=1000000000) (hl:l.length<=1000000000) (k:Nat) (hk:200<=k):aA.f k a t pr i fl of_ s d o l=some (iout a t pr i fl of_ s d o l):=by
 obtain ⟨k,rfl⟩:∃ j,k=j+1:=⟨k - 1,by omega⟩
 have w1:wrap64 (20+(o.length:Int))=20+(o.length:Int):=bQ (by omega) (by omega);unfold aA.f
 by_cases cw:Cb fl of_ o
 ·have hx:iout a t pr i fl of_ s d o l=([],21):=by unfold iout;rw [ah cw]
  rw [hx]
  by_cases c1:(o.length:Int) % 4=0
  ·rw [ah c1]
   by_cases c2:(o.length:Int)>40
   ·rw [ah c2,aA.j0,ah rfl]
   ·rw [aj c2]
    by_cases c3:fl>7
    ·rw [ah c3,aA.j0,ah rfl]
    ·have c4:of_>8191:=by unfold Cb at cw;omega
     rw [aj c3,bJ c4,aA.j0,ah rfl]
  ·rw [aj c1,aA.j0,ah rfl]
 ·have cx:(o.length:Int) % 4=0 /\ (o.length:Int)<=40 /\ fl<=7 /\ of_<=8191:=by unfold Cb at cw;omega
  obtain ⟨x1,x2,x3,x4⟩:=cx;have w2:wrap64 (65535 - (20+(o.length:Int)))=65535 - (20+(o.length:Int)):=bQ (by omega) (by omega);rw [ah x1,aj (by omega),aj (by omega),jC (by omega),aA.j0,aj (by decide),w1,w2];unfold iout;rw [aj cw]
  by_cases c5:20+(o.length:Int)+(l.length:Int)>65535
  ·rw [ah (by omega),ah c5]
  ·rw [aj (by omega),aj c5]
   have w3:IntKind.u16.wrap (wrap64 (20+(o.length:Int)+(l.length:Int)))=20+(o.length:Int)+(l.length:Int):=by rw [bQ (by omega) (by omega),FB (by omega) (by omega)]
   rw [ior x1 x2,AgH ⟨hf,x3⟩ ⟨hg,x4⟩,w3];rw [MB _ _ (by simp),bG,MB _ _ (by simp),bG,MB _ _ (by simp),bG,bG,ah (by simp),TB _ _ (by simp),bG,TB _ _ (by simp),bG,ah (by simp;omega)];exact TC ha ht hp ho x2 hl k (by omega) (congrArg (· ++o) rfl)
theorem tH (ha:0<=a /\ a<=255) (ht:0<=t /\ t<=255) (hp:0<=pr /\ pr<=255) (ho:jX o) (hl:jX l) (NT:(o.length:Int)<=40):jX (kV a t pr i fl of_ s d o l):=((P8 ha ht hp NT _).append ho).append hl
theorem qB:(kV a t pr i fl of_ s d o l).length=20+o.length+l.length:=by
 unfold kV;rw [List.length_append,List.length_append,wS]
end
end Go.Proofs.Ytkmimamminddiaa.Pure
namespace Go.Proofs.Ytkmimamminddiaa.Pure
open Go.RowKit Go.Proofs.Ytkmimamminddiaa.PB Go.Proofs.YtkmimamminddiaaW.PrintWords Go.Proofs.YtkmimamminddiaaW.PrintLast
open Go.Proofs.Ytkmimamminddiaa.Spec Go.Proofs.Ytkmimamminddiaa.BytesEq
theorem AbZ (op:BinOp) (x y:Int):0<=Go.bits op .u32 x y /\ Go.bits op .u32 x y<=4294967295:=by
 have h:∀ n:Int,0<=IntKind.u32.wrap n /\ IntKind.u32.wrap n<=4294967295:=fun n=>by
  show 0<=n % 4294967296 /\ n % 4294967296<=4294967295
  omega
 exact h _
theorem P9 (op:BinOp) (x y:Int):0<=Go.bits op .u8 x y /\ Go.bits op .u8 x y<=255:=by
 have h:∀ n:Int,0<=IntKind.u8.wrap n /\ IntKind.u8.wrap n<=255:=fun n=>by
  show 0<=n % 256 /\ n % 256<=255
  omega
 exact h _
def GV (x:Int):Prop:=0<=x /\ x<=4294967295
def Ig (x:Int):Prop:=0<=x /\ x<=65535
def U8 (x:Int):Prop:=0<=x /\ x<=255
theorem Yu (a b c d:Int):∃ r,dF.f a b c d=some r /\ GV r:=⟨_,rfl,AbZ _ _ _⟩
theorem uo (a b c d:Int):∃ r,((dF.f a b c d).bind fun t=>some t)=some r /\ GV r:=Yu a b c d
theorem TD (a:Int):∃ r,pM.f a=some r /\ GV r:=by
 unfold pM.f
 split
 ·exact uo _ _ _ _
 ·exact uo _ _ _ _
theorem AgI (k:Nat) (x y:Int) (b:Bool):∃ r,bK.j1 (k+1) x y b=some r /\ GV r:=by
 rw [bK.j1]
 split
 ·exact uo _ _ _ _
 ·split
  ·exact uo _ _ _ _
  ·exact uo _ _ _ _
theorem AgJ (k:Nat) (x y:Int) (b:Bool):∃ r,bK.j0 (k+2) x y b=some r /\ GV r:=by
 rw [bK.j0]
 split
 ·exact uo _ _ _ _
 ·split
  ·exact uo _ _ _ _
  ·split
   ·exact uo _ _ _ _
   ·split
    ·exact uo _ _ _ _
    ·split
     ·exact AgI _ _ _ _
     ·exact AgI _ _ _ _
theorem Cc (K:Nat) (hK:2<=K) (a b:Int):∃ r,bK.f K a b=some r /\ GV r:=by
 obtain ⟨k,rfl⟩:∃ j,K=j+2:=⟨K - 2,by omega⟩
 unfold bK.f
 split
 ·exact AgJ _ _ _ _
 ·exact AgJ _ _ _ _
theorem Oa (a:Int):∃ r,lu.f a=some r /\ Ig r:=by
 have h:∀ n:Int,Ig (IntKind.u16.wrap n):=fun n=>by
  show 0<=n % 65536 /\ n % 65536<=65535
  omega
 unfold lu.f
 split
 ·exact ⟨_,rfl,h _⟩
 ·split
  ·exact ⟨_,rfl,by unfold Ig;omega⟩
  ·exact ⟨_,rfl,h _⟩
theorem MC (a:Int) (ha:0<=a):qJ.f a=some (rd [17,6,1,17] (a.tmod 4)) /\ (rd [17,6,1,17] (a.tmod 4)=17 \/ rd [17,6,1,17] (a.tmod 4)=6 \/ rd [17,6,1,17] (a.tmod 4)=1):=by
 have h1:a.tmod 4<4:=Int.tmod_lt_of_pos _ (by decide);have h0:0<=a.tmod 4:=Int.tmod_nonneg _ ha
 constructor
 ·unfold qJ.f
  rw [bG,ah h0,ah (show a.tmod 4<((([17,6,1,17]:List Int)).length:Int) from h1)]
 ·generalize a.tmod 4=i at h1 h0|-
  obtain rfl|rfl|rfl|rfl:i=0 \/ i=1 \/ i=2 \/ i=3:=by omega
  ·exact .inl rfl
  ·exact .inr (.inl rfl)
  ·exact .inr (.inr rfl)
  ·exact .inl rfl
def vZ (n:Int):List Int:=wL.take (n.tmod 16).toNat
theorem Aew:jX wL:=by
 intro x hx;simp only [wL,List.mem_cons,List.not_mem_nil,or_false] at hx
 omega
theorem Ob (n:Int):jX (vZ n):=Aew.take _
theorem Oc (n:Int):(vZ n).length<=16:=by
 unfold vZ;rw [List.length_take];have:wL.length=16:=rfl
 omega
def Vp (n:Int):List Int:=if Go.bits .and .u8 n 32=0 then [] else [1,1,1,0]
theorem WU (n:Int):jX (Vp n) /\ ((Vp n).length:Int) % 4=0 /\ ((Vp n).length:Int)<=4:=by
 unfold Vp
 split
 ·exact ⟨.nil,rfl,by decide⟩
 ·refine ⟨fun x hx=> ?_,rfl,by decide⟩
  simp only [List.mem_cons,List.not_mem_nil,or_false] at hx
  omega
def Ab0 (fl:Int):Int:=if Go.bits .and .u8 fl 1=0 then 8 else 0
def Yv (fr n:Int):Int:=Go.bits .or .u32 (fr % 4294967296*65536 % 4294967296) (n % 4294967296)
def EZ (pr a b fr tp fl n:Int):List Int:=
 if pr=17 then rC fr tp (if Go.bits .and .u8 fl 64=0 then Tn (yT a b fr tp (vZ n)) else 0) (vZ n)
 else if pr=6 then sV fr tp (n % 4294967296) 0 (Go.bits .and .u8 fl 23) 9 (65535 - norm (tT a b (sV fr tp (n % 4294967296) 0 (Go.bits .and .u8 fl 23) 9 0 0 (Vp n) (vZ n)))) 0 (Vp n) (vZ n)
 else qX.kV (Ab0 fl) 0 (ck (qX.kV (Ab0 fl) 0 0 (Yv fr n) (vZ n))) (Yv fr n) (vZ n)
theorem Akl (fl:Int):U8 (Ab0 fl):=by
 unfold Ab0 U8
 split<;>omega
theorem WV (K:Nat) (hK:4000<=K) {pr a b fr tp fl n:Int} (ha:GV a) (hb:GV b) (hf:Ig fr) (ht:Ig tp):qL.f K pr a b fr tp fl n=some (EZ pr a b fr tp fl n):=by
 have hd:=Ob n;have hl:=Oc n;have ho:=WU n;have hfl:=P9 .and fl 23;unfold qL.f EZ
 by_cases c17:pr=17
 ·rw [ah c17,ah c17]
  by_cases c64:Go.bits .and .u8 fl 64=0
  ·rw [ah c64,ah c64]
   have e1:=AbR (c:=0) ha hb hf ht hd (by omega) K hK;unfold vZ at e1 hl|-
   rw [e1,bG,BP _ _ _ (by omega),aj (by omega)]
   rfl
  ·rw [aj c64,aj c64]
   unfold vZ at hl|-
   rw [BP _ _ _ (by omega),aj (by omega)]
   rfl
 ·rw [aj c17,aj c17]
  by_cases c6:pr=6
  ·rw [ah c6,ah c6]
   have h2:∀ o:List Int,jX o ->((o.length:Int) % 4=0) ->((o.length:Int)<=4) ->((kS.f K a b fr tp (n % 4294967296) 0 (Go.bits .and .u8 fl 23) 9 0 0 o (vZ n)).bind fun s=>(ak.f K fr tp (n % 4294967296) 0 (Go.bits .and .u8 fl 23) 9 s 0 o (vZ n)).bind fun b=>some b.1)=some (sV fr tp (n % 4294967296) 0 (Go.bits .and .u8 fl 23) 9 (65535 - norm (tT a b (sV fr tp (n % 4294967296) 0 (Go.bits .and .u8 fl 23) 9 0 0 o (vZ n)))) 0 o (vZ n)):=fun o h1 h4 NT=>by
    rw [AbN ha hb hfl h1 h4 (by omega) hd (by omega) K hK,bG,FH (by omega) (by omega) K (by omega),JF h4 (by omega) (by omega)]
    rfl
   unfold Vp at ho|-
   by_cases c32:Go.bits .and .u8 n 32=0
   ·rw [ah c32] at ho|-
    rw [ah c32];exact h2 [] ho.1 ho.2.1 ho.2.2
   ·rw [aj c32] at ho|-
    rw [aj c32];exact h2 _ ho.1 ho.2.1 ho.2.2
  ·rw [aj c6,aj c6]
   have h2:∀ t:Int,U8 t ->((jg.f K t 0 0 (Yv fr n) (vZ n)).bind fun s=>(bI.f t 0 s (Yv fr n) (vZ n)).bind fun b=>some b.1)=some (qX.kV t 0 (ck (qX.kV t 0 0 (Yv fr n) (vZ n))) (Yv fr n) (vZ n)):=fun t h1=>by
    rw [qX.NV t 0 0 _ _ K hK (by omega) (qX.tH h1 (by omega) hd),bG,qX.tC _ _ _ _ (by omega),aj (by omega)]
    rfl
   unfold Ab0
   by_cases c1:Go.bits .and .u8 fl 1=0
   ·rw [ah c1,ah c1]
    exact h2 8 (by unfold U8;omega)
   ·rw [aj c1,aj c1]
    exact h2 0 (by unfold U8;omega)
theorem GX (pr a b fr tp fl n:Int):jX (EZ pr a b fr tp fl n) /\ (EZ pr a b fr tp fl n).length<=50:=by
 have hd:=Ob n;have hl:=Oc n;have ho:=WU n;unfold EZ
 split
 ·exact ⟨BQ hd,by rw [wX];omega⟩
 ·split
  ·exact ⟨yS (P9 _ _ _) ho.1 hd,by rw [wW];omega⟩
  ·exact ⟨qX.tH (Akl fl) (by omega) hd,by rw [qX.qB];omega⟩
def TE (p8:Int):Int:=rd [3,11,12] (p8.tmod 3)
theorem Aex (p8:Int):TE p8=3 \/ TE p8=11 \/ TE p8=12 \/ TE p8=0:=by
 unfold TE rd;generalize (p8.tmod 3).toNat=i
 match i with
 |0=>exact .inl rfl
 |1=>exact .inr (.inl rfl)
 |2=>exact .inr (.inr (.inl rfl))
 |n+3=>exact .inr (.inr (.inr rfl))
def MF (pr s d fr tp p5 p8:Int):List Int:=kV 0 3 pr 0 0 0 d s [] (EZ pr d s tp fr p5 p8)
def TF (pr s d fr tp p5 p8:Int):List Int:=qX.kV (TE p8) 0 (ck (qX.kV (TE p8) 0 0 0 (MF pr s d fr tp p5 p8))) 0 (MF pr s d fr tp p5 p8)
theorem Ab3 {a t pr i fl of_ s d:Int} {o l:List Int} (hf:fl<=7) (hg:of_<=8191) (h4:(o.length:Int) % 4=0) (NT:(o.length:Int)<=40) (hl:(l.length:Int)<=3000):iout a t pr i fl of_ s d o l=(kV a t pr i fl of_ s d o l,0):=by
 unfold iout;rw [aj (by unfold Cb;omega),aj (by omega)]
theorem TG {pr s d fr tp p5 p8:Int} (hp:U8 pr):jX (MF pr s d fr tp p5 p8) /\ (MF pr s d fr tp p5 p8).length<=70:=by
 obtain ⟨h1,h2⟩:=GX pr d s tp fr p5 p8;unfold MF;refine ⟨tH (by omega) (by omega) hp .nil h1 (by decide), ?_⟩;rw [qB];have:([]:List Int).length=0:=rfl
 omega
theorem Ab4 (p8:Int):U8 (TE p8):=by
 have:=Aex p8;unfold U8
 omega
theorem WW {pr s d fr tp p5 p8:Int} (hp:U8 pr):jX (TF pr s d fr tp p5 p8) /\ (TF pr s d fr tp p5 p8).length<=80:=by
 obtain ⟨h1,h2⟩:=TG (s:=s) (d:=d) (fr:=fr) (tp:=tp) (p5:=p5) (p8:=p8) hp;unfold TF;exact ⟨qX.tH (Ab4 p8) (by omega) h1,by rw [qX.qB];omega⟩
theorem ApK (K:Nat) (hK:4000<=K) {pr s d fr tp p5 p7 p8:Int} {x:List Int} (hp:U8 pr) (hs:GV s) (hd:GV d) (hf:Ig fr) (ht:Ig tp):seat_packet.er K pr s d fr tp p5 p7 p8 x=some (if p7.tmod 5=4 then (1,TF pr s d fr tp p5 p8) else (pr,x)):=by
 unfold seat_packet.er
 by_cases c:p7.tmod 5=4
 ·rw [ah c,ah c]
  obtain ⟨b1,b2⟩:=GX pr d s tp fr p5 p8;obtain ⟨e1,e2⟩:=TG (s:=s) (d:=d) (fr:=fr) (tp:=tp) (p5:=p5) (p8:=p8) hp;rw [WV K hK hd hs ht hf,bG,tC (by omega) (by omega) hp (by omega) (by omega) .nil (by decide) (by omega) K (by omega),Ab3 (by omega) (by omega) rfl (by decide) (by omega),bG]
  dsimp only
  have e3:=qX.NV (rd [3,11,12] (p8.tmod 3)) 0 0 0 (MF pr s d fr tp p5 p8) K hK (by omega) (qX.tH (Ab4 p8) (by omega) e1);unfold MF at e3 e2
  rw [e3,bG,qX.tC _ _ _ _ (by omega),aj (by omega),bG]
  rfl
 ·rw [aj c,aj c]
theorem Ab5 (p6 pr:Int) (hp:U8 pr):∃ t pr2 fl of_ o,seat_packet.sw p6 pr=(t,pr2,fl,of_,o) /\ U8 t /\ U8 pr2 /\ (0<=fl /\ fl<=2) /\ (0<=of_ /\ of_<=5) /\ jX o /\ (o.length:Int) % 4=0 /\ (o.length:Int)<=4:=by
 have h64:U8 64:=by unfold U8;omega
 unfold seat_packet.sw
 split
 ·exact ⟨_,_,_,_,_,rfl,by unfold U8;omega,hp,by omega,by omega,.nil,rfl,by decide⟩
 ·split
  ·exact ⟨_,_,_,_,_,rfl,h64,hp,by omega,by omega,.nil,rfl,by decide⟩
  ·split
   ·exact ⟨_,_,_,_,_,rfl,h64,hp,by omega,by omega,.nil,rfl,by decide⟩
   ·split
    ·exact ⟨_,_,_,_,_,rfl,h64,by unfold U8;omega,by omega,by omega,.nil,rfl,by decide⟩
    ·split
     ·refine ⟨_,_,_,_,_,rfl,h64,hp,by omega,by omega,fun x hx=> ?_,rfl,by decide⟩
      simp only [List.mem_cons,List.not_mem_nil,or_false] at hx
      omega
     ·exact ⟨_,_,_,_,_,rfl,h64,hp,by omega,by omega,.nil,rfl,by decide⟩
theorem ApL {p8 p9:Int} {b:List Int} (h:jX b):jX (seat_packet.sp p8 p9 b) /\ (seat_packet.sp p8 p9 b).length=b.length:=by
 unfold seat_packet.sp
 split
 ·split
  ·exact ⟨h.set _ (P9 _ _ _),by rw [List.length_set]⟩
  ·exact ⟨h,rfl⟩
 ·exact ⟨h,rfl⟩
theorem TI (K:Nat) (hK:4000<=K) (p0 p1 p2 p3 p4 p5 p6 p7 p8 p9 side n:Int) (h0:0<=p0):∃ s d fr tp,GV s /\ GV d /\ Ig fr /\ Ig tp /\ lu.f p3=some fr /\ lu.f p4=some tp /\
  seat_packet.f K p0 p1 p2 p3 p4 p5 p6 p7 p8 p9 side n=some (seat_packet.sp p8 p9 (kV 0 (seat_packet.sw p6 (if p7.tmod 5=4 then 1 else rd [17,6,1,17] (p0.tmod 4))).1 (seat_packet.sw p6 (if p7.tmod 5=4 then 1 else rd [17,6,1,17] (p0.tmod 4))).2.1 (IntKind.u16.wrap p8) (seat_packet.sw p6 (if p7.tmod 5=4 then 1 else rd [17,6,1,17] (p0.tmod 4))).2.2.1 (seat_packet.sw p6 (if p7.tmod 5=4 then 1 else rd [17,6,1,17] (p0.tmod 4))).2.2.2.1 s d (seat_packet.sw p6 (if p7.tmod 5=4 then 1 else rd [17,6,1,17] (p0.tmod 4))).2.2.2.2 (if p7.tmod 5=4 then TF (rd [17,6,1,17] (p0.tmod 4)) s d fr tp p5 p8 else EZ (rd [17,6,1,17] (p0.tmod 4)) s d fr tp p5 p8))):=by
 obtain ⟨s0,e1,hs0⟩:=TD p1;obtain ⟨d0,e2,hd0⟩:=Cc K (by omega) p2 (n % 256)
 obtain ⟨s,d,e3,hs,hd⟩:∃ s d,seat_packet.sd K p1 p2 side n s0 d0=some (s,d) /\ GV s /\ GV d:=by
  unfold seat_packet.sd
  split
  ·exact ⟨_,_,rfl,hs0,hd0⟩
  ·obtain ⟨s1,f1,hs1⟩:=Cc K (by omega) p1 (n % 256)
   obtain ⟨d1,f2,hd1⟩:=Cc K (by omega) ((5+p2.tmod 3) % 256) (n % 256);rw [f1,bG,f2,bG];exact ⟨_,_,rfl,hs1,hd1⟩
 obtain ⟨e4,hpr⟩:=MC p0 h0;obtain ⟨fr,e5,hfr⟩:=Oa p3;obtain ⟨tp,e6,htp⟩:=Oa p4;refine ⟨s,d,fr,tp,hs,hd,hfr,htp,e5,e6, ?_⟩;unfold seat_packet.f;rw [e1,bG,e2,bG,e3,bG,e4,bG,e5,bG,e6,bG];generalize rd [17,6,1,17] (p0.tmod 4)=pr at hpr|-
 have hp8:U8 pr:=by unfold U8;omega
 dsimp only
 rw [WV K hK hs hd hfr htp,bG,ApK K hK hp8 hs hd hfr htp,bG];have b1:=GX pr s d fr tp p5 p8;have b2:=WW (s:=s) (d:=d) (fr:=fr) (tp:=tp) (p5:=p5) (p8:=p8) hp8
 by_cases c:p7.tmod 5=4
 ·rw [ah c,ah c,ah c]
  obtain ⟨t,pr2,fl,of_,o,es,ht,hp2,hfl,hof,ho,h4,NT⟩:=Ab5 p6 1 (by unfold U8;omega)
  dsimp only
  rw [es,tC (by omega) ht hp2 hfl.1 hof.1 ho (by omega) (by omega) K (by omega),Ab3 (by omega) (by omega) h4 (by omega) (by omega),bG]
 ·rw [aj c,aj c,aj c]
  obtain ⟨t,pr2,fl,of_,o,es,ht,hp2,hfl,hof,ho,h4,NT⟩:=Ab5 p6 pr hp8
  dsimp only
  rw [es,tC (by omega) ht hp2 hfl.1 hof.1 ho (by omega) (by omega) K (by omega),Ab3 (by omega) (by omega) h4 (by omega) (by omega),bG]
theorem TJ (K:Nat) (hK:4000<=K) (p0 p1 p2 p3 p4 p5 p6 p7 p8 p9 side n:Int) (h0:0<=p0):∃ r,seat_packet.f K p0 p1 p2 p3 p4 p5 p6 p7 p8 p9 side n=some r /\ jX r /\ r.length<=110:=by
 obtain ⟨s,d,fr,tp,hs,hd,hfr,htp,_,_,e⟩:=TI K hK p0 p1 p2 p3 p4 p5 p6 p7 p8 p9 side n h0;refine ⟨_,e, ?_⟩;have hpr:=(MC p0 h0).2;generalize rd [17,6,1,17] (p0.tmod 4)=pr at hpr|-
 have hp8:U8 pr:=by unfold U8;omega
 have hq:U8 (if p7.tmod 5=4 then 1 else pr):=by
  split
  ·unfold U8;omega
  ·exact hp8
 generalize (if p7.tmod 5=4 then 1 else pr)=q at hq|-
 obtain ⟨t,pr2,fl,of_,o,es,ht,hp2,hfl,hof,ho,h4,NT⟩:=Ab5 p6 q hq;rw [es]
 have hx:jX (if p7.tmod 5=4 then TF pr s d fr tp p5 p8 else EZ pr s d fr tp p5 p8) /\ (if p7.tmod 5=4 then TF pr s d fr tp p5 p8 else EZ pr s d fr tp p5 p8).length<=80:=by
  split
  ·exact WW hp8
  ·obtain ⟨b1,b2⟩:=GX pr s d fr tp p5 p8
   exact ⟨b1,by omega⟩
 generalize (if p7.tmod 5=4 then TF pr s d fr tp p5 p8 else EZ pr s d fr tp p5 p8)=x at hx|-
 have hb:jX (kV 0 t pr2 (IntKind.u16.wrap p8) fl of_ s d o x):=tH (by omega) ht hp2 ho hx.1 (by omega);obtain ⟨g1,g2⟩:=ApL (p8:=p8) (p9:=p9) hb;refine ⟨g1, ?_⟩;rw [g2,qB]
 omega
end Go.Proofs.Ytkmimamminddiaa.Pure
namespace Go.Proofs.Ytkmimamminddiaa.PB
open Go.RowKit Go.Proofs.YtkmimamminddiaaW.PrintWords Go.Proofs.YtkmimamminddiaaW.PrintLast Go.Proofs.YtkmimamminddiaaW.PrintMore
attribute [local go_sem] dV dW gI gJ dG dH dX dY
end Go.Proofs.Ytkmimamminddiaa.PB
namespace Go.Proofs.Ytkmimamminddiaa.Pure
open Go.RowKit Go.Proofs.Ytkmimamminddiaa.PB Go.Proofs.YtkmimamminddiaaW.PrintWords Go.Proofs.YtkmimamminddiaaW.PrintLast
open Go.Proofs.Ytkmimamminddiaa.Spec Go.Proofs.Ytkmimamminddiaa.BytesEq
theorem w12:wrap64 (1+1)=2:=bQ (by omega) (by omega)
theorem w23:wrap64 (2+1)=3:=bQ (by omega) (by omega)
theorem Ur:wrap64 (3+1)=4:=bQ (by omega) (by omega)
section
end
end Go.Proofs.Ytkmimamminddiaa.Pure
namespace Go.Proofs.Ytkmimamminddiaa.PB
open Go.RowKit Go.Proofs.YtkmimamminddiaaW.PrintWords Go.Proofs.YtkmimamminddiaaW.PrintLast Go.Proofs.YtkmimamminddiaaW.PrintMore
attribute [local go_sem] dV dW gI gJ dG dH dX dY
attribute [local go_sem] dV dW gI gJ dG dH dX dY
attribute [local go_sem] dV dW gI gJ dG dH dX dY
end Go.Proofs.Ytkmimamminddiaa.PB
namespace Go.Proofs.Ytkmimamminddiaa.Pure
open Go.RowKit Go.Proofs.Ytkmimamminddiaa.PB Go.Proofs.YtkmimamminddiaaW.PrintWords Go.Proofs.YtkmimamminddiaaW.PrintLast
open Go.Proofs.Ytkmimamminddiaa.Spec Go.Proofs.Ytkmimamminddiaa.BytesEq
theorem Yw:U8 0:=by unfold U8;omega
theorem yu:Ig 0:=by unfold Ig;omega
theorem TK:GV 0:=by unfold GV;omega
theorem WX {l:List Int} (h:jX l):∃ a t pr i fl of_ s d o b e,Vk l=(a,t,pr,i,fl,of_,s,d,o,b,e) /\ U8 a /\ U8 t /\ U8 pr /\ Ig i /\ (0<=fl /\ fl<=7) /\ (0<=of_ /\ of_<=8191) /\ GV s /\ GV d /\ jX o /\ (o.length:Int) % 4=0 /\ (o.length:Int)<=40 /\ jX b /\ b.length<=l.length:=by
 have hn:∀ e:Int,∃ a t pr i fl of_ s d o b e',((0:Int),(0:Int),(0:Int),(0:Int),(0:Int),(0:Int),(0:Int),(0:Int),([]:List Int),([]:List Int),e)=(a,t,pr,i,fl,of_,s,d,o,b,e') /\ U8 a /\ U8 t /\ U8 pr /\ Ig i /\ (0<=fl /\ fl<=7) /\ (0<=of_ /\ of_<=8191) /\ GV s /\ GV d /\ jX o /\ (o.length:Int) % 4=0 /\ (o.length:Int)<=40 /\ jX b /\ b.length<=l.length:=fun e=>
  ⟨0,0,0,0,0,0,0,0,[],[],e,rfl,Yw,Yw,Yw,yu,by omega,by omega,TK,TK,.nil,rfl,by decide,.nil,Nat.zero_le _⟩
 have hh:=tJ l;have h4:eY l % 4=0:=by unfold eY;omega
 have h6:=iY h 6;unfold Vk
 by_cases c1:l.length<20
 ·rw [ah c1];exact hn _
 ·rw [aj c1]
  by_cases c2:Vj l
  ·rw [ah c2];exact hn _
  ·rw [aj c2]
   by_cases c3:(l.length:Int)<g16 l 2
   ·rw [ah c3];exact hn _
   ·rw [aj c3]
    by_cases c4:Me l≠65535
    ·rw [ah c4];exact hn _
    ·rw [aj c4]
     have c5:l.getD 0 0 / 16=4 /\ eY l>=20 /\ g16 l 2>=eY l:=by
      unfold Vj at c2
      exact Decidable.not_not.1 c2
     have ho:(((l.take (eY l).toNat).drop 20).length:Int)=eY l - 20:=by
      rw [List.length_drop,List.length_take]
      omega
     refine ⟨_,_,_,_,_,_,_,_,_,_,_,rfl,h.getD _,h.getD _,h.getD _,iY h 4,⟨by omega,by omega⟩,⟨by omega,by omega⟩,Au h 12,Au h 16,(h.take _).drop _,by omega,by omega,(h.take _).drop _, ?_⟩;rw [List.length_drop,List.length_take]
     omega
theorem Akm {l:List Int} (h:jX l):∃ s d c b e,udg l=(s,d,c,b,e) /\ Ig s /\ Ig d /\ Ig c /\ jX b /\ b.length<=l.length:=by
 unfold udg
 split
 ·exact ⟨_,_,_,_,_,rfl,yu,yu,yu,.nil,Nat.zero_le _⟩
 ·split
  ·exact ⟨_,_,_,_,_,rfl,yu,yu,yu,.nil,Nat.zero_le _⟩
  ·split
   ·exact ⟨_,_,_,_,_,rfl,yu,yu,yu,.nil,Nat.zero_le _⟩
   ·refine ⟨_,_,_,_,_,rfl,iY h 0,iY h 2,iY h 6,(h.take _).drop _, ?_⟩
    rw [List.length_drop,List.length_take]
    omega
theorem Aey {l:List Int} (h:jX l):∃ s d q a f w c u o b e,X5 l=(s,d,q,a,f,w,c,u,o,b,e) /\ Ig s /\ Ig d /\ GV q /\ GV a /\ U8 f /\ Ig w /\ Ig c /\ Ig u /\ jX o /\ (o.length:Int) % 4=0 /\ (o.length:Int)<=40 /\ jX b /\ b.length<=l.length:=by
 have hn:∀ e:Int,∃ s d q a f w c u o b e',((0:Int),(0:Int),(0:Int),(0:Int),(0:Int),(0:Int),(0:Int),(0:Int),([]:List Int),([]:List Int),e)=(s,d,q,a,f,w,c,u,o,b,e') /\ Ig s /\ Ig d /\ GV q /\ GV a /\ U8 f /\ Ig w /\ Ig c /\ Ig u /\ jX o /\ (o.length:Int) % 4=0 /\ (o.length:Int)<=40 /\ jX b /\ b.length<=l.length:=fun e=>
  ⟨0,0,0,0,0,0,0,0,[],[],e,rfl,yu,yu,TK,TK,Yw,yu,yu,yu,.nil,rfl,by decide,.nil,Nat.zero_le _⟩
 have h12:=h.getD 12;unfold X5
 by_cases c1:l.length<20
 ·rw [ah c1];exact hn _
 ·rw [aj c1]
  by_cases c2:4*(l.getD 12 0 / 16)<20
  ·rw [ah c2];exact hn _
  ·rw [aj c2]
   by_cases c3:(l.length:Int)<4*(l.getD 12 0 / 16)
   ·rw [ah c3];exact hn _
   ·rw [aj c3]
    have ho:(((l.take (4*(l.getD 12 0 / 16)).toNat).drop 20).length:Int)=4*(l.getD 12 0 / 16) - 20:=by
     rw [List.length_drop,List.length_take]
     omega
    refine ⟨_,_,_,_,_,_,_,_,_,_,_,rfl,iY h 0,iY h 2,Au h 4,Au h 8,h.getD 13,iY h 14,iY h 16,iY h 18,(h.take _).drop _,by omega,by omega,h.drop _, ?_⟩;rw [List.length_drop]
    omega
theorem WY {l:List Int} (h:jX l):∃ t c s r b e,qX.Yq l=(t,c,s,r,b,e) /\ U8 t /\ U8 c /\ Ig s /\ GV r /\ jX b /\ b.length<=l.length:=by
 unfold qX.Yq
 split
 ·exact ⟨_,_,_,_,_,_,rfl,Yw,Yw,yu,TK,.nil,Nat.zero_le _⟩
 ·exact ⟨_,_,_,_,_,_,rfl,h.getD _,h.getD _,iY h 2,Au h 4,h.drop _,by rw [List.length_drop];omega⟩
def Cj (t c:Int):Bool:=(t==8||t==0) && c==0
def lF (b:List Int):Option Int:=
 if b.length<20 then none else if ¬ b.getD 0 0 / 16=4 \/ eY b<20 \/ (b.length:Int)<eY b+8 then none
 else if b.getD 9 0=17 \/ b.getD 9 0=6 then some (eY b)
 else if b.getD 9 0=1 then (if Cj (b.getD (eY b).toNat 0) (b.getD ((eY b).toNat+1) 0)=true then some (eY b) else none) else none
def wU (b:List Int) (h:Nat):Int×Int:=if b.getD 9 0=1 then (g16 b (h+4),g16 b (h+4)) else (g16 b h,g16 b (h+2))
def innerS (b:List Int):Option (S65×S65):=(lF b).map fun h=>(⟨yD b 12,(wU b h.toNat).1⟩,⟨yD b 16,(wU b h.toNat).2⟩)
theorem Vq {b:List Int} {h:Int} (e:lF b=some h):h=eY b /\ 20<=h /\ h+8<=(b.length:Int) /\ b.getD 0 0 / 16=4 /\ (b.getD 9 0=17 \/ b.getD 9 0=6 \/ b.getD 9 0=1):=by
 unfold lF at e
 by_cases c1:b.length<20
 ·rw [ah c1] at e;cases e
 ·rw [aj c1] at e
  by_cases c2:¬ b.getD 0 0 / 16=4 \/ eY b<20 \/ (b.length:Int)<eY b+8
  ·rw [ah c2] at e;cases e
  ·rw [aj c2] at e
   have c3:b.getD 0 0 / 16=4 /\ 20<=eY b /\ eY b+8<=(b.length:Int):=by
    refine ⟨Decidable.not_not.1 (fun h=>c2 (.inl h)), ?_, ?_⟩
    ·have:=fun h=>c2 (.inr (.inl h));omega
    ·have:=fun h=>c2 (.inr (.inr h));omega
   by_cases c4:b.getD 9 0=17 \/ b.getD 9 0=6
   ·rw [ah c4] at e
    obtain rfl:=eF e;exact ⟨rfl,c3.2.1,c3.2.2,c3.1,c4.elim .inl (fun h=> .inr (.inl h))⟩
   ·rw [aj c4] at e
    by_cases c5:b.getD 9 0=1
    ·rw [ah c5] at e
     split at e
     ·obtain rfl:=eF e
      exact ⟨rfl,c3.2.1,c3.2.2,c3.1,.inr (.inr c5)⟩
     ·cases e
    ·rw [aj c5] at e;cases e
theorem Aez (t c a d:Int) (l:List Int):oJ.f t c a d l=some (Cj t c):=by
 unfold oJ.f pK.f Cj
 by_cases h0:t=0
 ·subst h0
  rw [ah rfl,bG,ah rfl]
  rfl
 ·rw [aj h0]
  by_cases h8:t=8
  ·subst h8
   rw [ah rfl,bG,ah rfl]
   rfl
  ·rw [aj h8]
   have e1:(t==8)=false:=iM h8;have e2:(t==0)=false:=iM h0;rw [e1,e2]
   split
   ·rfl
   ·split
    ·rfl
    ·split<;>rfl
theorem MG {b:List Int} (h:jX b) (i:Nat) (hi:i+2<=b.length):dK.f (b.drop i)=some (g16 b i):=by
 have hl:(b.drop i).length=b.length - i:=List.length_drop;unfold dK.f;rw [ah (by omega),ah (by omega)]
 have e0:rd (b.drop i) 0=b.getD i 0:=by
  rw [jR _ 0 0 rfl]
  simp [List.getD_eq_getElem?_getD]
 have e1:rd (b.drop i) 1=b.getD (i+1) 0:=by
  rw [jR _ 1 1 rfl]
  simp [List.getD_eq_getElem?_getD]
 rw [e0,e1,LP (h.getD i) (h.getD (i+1))]
 rfl
theorem JI {b:List Int} (h:jX b) (i:Nat) (hi:i+4<=b.length):eU.f (b.drop i)=some (yD b i):=by
 have hl:(b.drop i).length=b.length - i:=List.length_drop;unfold eU.f;rw [MG h i (by omega),bG,ah (by omega),List.drop_drop,MG h (i+2) (by omega),bG,U2 (iY h i) (iY h (i+2))]
 rfl
theorem Yx {b:List Int} (h:jX b) (hl:b.length<=1000000000) (K:Nat) (hK:3<=K):∃ x,bT.f K b=some (x,(lF b).isSome) /\ ∀ y,lF b=some y ->x=y:=by
 obtain ⟨k,rfl⟩:∃ j,K=j+3:=⟨K - 3,by omega⟩
 have hh:=tJ b;have hd:=Md h;have r0:rd b 0=b.getD 0 0:=jR b 0 0 rfl;have r9:rd b 9=b.getD 9 0:=jR b 9 9 rfl;have w8:wrap64 (eY b+8)=eY b+8:=bQ (by omega) (by omega);unfold bT.f lF
 by_cases c1:b.length<20
 ·rw [ah (show (b.length:Int)<20 by omega),ah c1]
  exact ⟨_,rfl,fun y e=>by cases e⟩
 ·rw [aj (show ¬ (b.length:Int)<20 by omega),aj c1,ah (by omega),hd,r0,w8]
  have jt:bT.j0 (k+3) b (eY b) true=some (0,false):=by rw [bT.j0,ah rfl]
  by_cases c2:b.getD 0 0 / 16=4
  ·rw [ah c2]
   by_cases c3:eY b<20
   ·rw [ah c3,ah (.inr (.inl c3)),jt]
    exact ⟨_,rfl,fun y e=>by cases e⟩
   ·rw [aj c3]
    by_cases c4:(b.length:Int)<eY b+8
    ·rw [ah (.inr (.inr c4)),bJ c4,jt]
     exact ⟨_,rfl,fun y e=>by cases e⟩
    ·rw [aj (fun hh=>hh.elim (fun x=>x c2) (fun x=>x.elim c3 c4)),jC c4,bT.j0,aj (by decide),ah (show 9<(b.length:Int) by omega),r9]
     have j1t:∀ x,bT.j1 (k+2) b (eY b) x true=some (eY b,true):=fun x=>by rw [bT.j1,ah rfl]
     by_cases c17:b.getD 9 0=17
     ·rw [ah c17,ah (.inl c17),jf c17,j1t]
      exact ⟨_,rfl,fun y e=>eF e⟩
     ·rw [aj c17]
      by_cases c6:b.getD 9 0=6
      ·rw [ah (.inr c6),jf c6,j1t]
       exact ⟨_,rfl,fun y e=>eF e⟩
      ·rw [aj (fun hh=>hh.elim c17 c6),iM c6,bT.j1,aj (by decide)]
       by_cases c5:b.getD 9 0=1
       ·rw [ah c5,ah c5,ah (by omega),ah (by omega)]
        have hdl:(b.drop (eY b).toNat).length=b.length - (eY b).toNat:=List.length_drop
        have e0:rd (b.drop (eY b).toNat) 0=b.getD (eY b).toNat 0:=by
         rw [jR _ 0 0 rfl]
         simp [List.getD_eq_getElem?_getD]
        have e1:rd (b.drop (eY b).toNat) 1=b.getD ((eY b).toNat+1) 0:=by
         rw [jR _ 1 1 rfl]
         simp [List.getD_eq_getElem?_getD]
        have e2:jh.f (b.drop (eY b).toNat)=some (Cj (b.getD (eY b).toNat 0) (b.getD ((eY b).toNat+1) 0)):=by
         unfold jh.f;rw [ah (by omega),ah (by omega),e0,e1,Aez,bG]
        rw [e2,bG]
        by_cases c7:Cj (b.getD (eY b).toNat 0) (b.getD ((eY b).toNat+1) 0)=true
        ·rw [ah c7,c7]
         exact ⟨_,rfl,fun y e=>eF e⟩
        ·rw [aj c7,Bool.eq_false_iff.2 c7]
         exact ⟨_,rfl,fun y e=>by cases e⟩
       ·rw [aj c5,aj c5]
        exact ⟨_,rfl,fun y e=>by cases e⟩
  ·rw [aj c2,ah (.inl c2),jt]
   exact ⟨_,rfl,fun y e=>by cases e⟩
theorem Ab6 {b:List Int} (h:jX b) (hl:b.length<=1000000000) (K:Nat) (hK:3<=K):dJ.f K b=some (match innerS b with|none=>([],false)|some p=>([p.1,p.2],true)):=by
 obtain ⟨x,e,hx⟩:=Yx h hl K hK;unfold dJ.f innerS;rw [e,bG]
 cases hw:lF b with
 |none=>rfl
 |some y=>
  obtain rfl:=hx y hw;obtain ⟨he,h20,h8,h4,hp⟩:=Vq hw;have r9:rd b 9=b.getD 9 0:=jR b 9 9 rfl;have hr:=tJ b;have w2:wrap64 (x+2)=x+2:=bQ (by omega) (by omega);have w4:wrap64 (x+4)=x+4:=bQ (by omega) (by omega);have t2:(x+2).toNat=x.toNat+2:=by omega
  have t4:(x+4).toNat=x.toNat+4:=by omega
  dsimp only [Option.isSome_some,Option.map_some];rw [ah rfl,ah (by omega),ah (by omega),MG h _ (by omega),bG,w2,ah (by omega),ah (by omega),t2,MG h _ (by omega),bG,ah (by omega),r9];unfold wU
  by_cases c:b.getD 9 0=1
  ·rw [ah c,ah c,w4,ah (by omega),ah (by omega),t4,MG h _ (by omega),bG,ah (by omega),JI h 12 (by omega),bG,ah (by omega),JI h 16 (by omega),bG]
  ·rw [aj c,aj c,ah (by omega),JI h 12 (by omega),bG,ah (by omega),JI h 16 (by omega),bG]
end Go.Proofs.Ytkmimamminddiaa.Pure
namespace Go.Proofs.Ytkmimamminddiaa.PB
open Go.RowKit Go.Proofs.YtkmimamminddiaaW.PrintWords Go.Proofs.YtkmimamminddiaaW.PrintLast Go.Proofs.YtkmimamminddiaaW.PrintMore
open Go.Proofs.Ytkmimamminddiaa.Spec Go.Proofs.Ytkmimamminddiaa.BytesEq Go.Proofs.Ytkmimamminddiaa.Pure
theorem kU {P:Program} {fn:Func} {p p2 u3 u4 u5:Tmp} {ty V7:TypeId} (h:fn.results= #[.cell p ty,.cell p2 V7,.tmp u3,.tmp u4,.tmp u5]) (tmps:Array Value) (w:World) (g g2:Nat) (t t2:TypeId) (cs cs2:Array Value) (fr fr2:Nat×Nat) (d d2:TypeDesc)
  (hp:tmps.getD p undef= .pointer (some ⟨g,0,none⟩)) (hg:w.heap[g]?=some (.cells cs t fr)) (hu:P.underlying ty=some d) (hd:(match d with| .struct _| .array _ _=>true|_=>false)=true) (hi:(P.info? ty).map (·.size)=some cs.size)
  (hp2:tmps.getD p2 undef= .pointer (some ⟨g2,0,none⟩)) (hg2:w.heap[g2]?=some (.cells cs2 t2 fr2)) (hu2:P.underlying V7=some d2) (hd2:(match d2 with| .struct _| .array _ _=>true|_=>false)=true) (hi2:(P.info? V7).map (·.size)=some cs2.size):
  (results fn tmps).run P w= .ok (.tuple #[.agg cs,.agg cs2,tmps.getD u3 undef,tmps.getD u4 undef,tmps.getD u5 undef]) w:=by
 have h1:tmps[p]?.getD undef= .pointer (some ⟨g,0,none⟩):=by simpa using hp
 have h2:tmps[p2]?.getD undef= .pointer (some ⟨g2,0,none⟩):=by simpa using hp2
 simp [results,h,h1,h2,asAddr,run_loadVar_row w g t ty cs fr d hg hu hd hi,run_loadVar_row w g2 t2 V7 cs2 fr2 d2 hg2 hu2 hd2 hi2]
def FN (b:List Int):S65×S65×Int×Int×Bool:=match lF b with
 |none=>(⟨0,0⟩,⟨0,0⟩,0,0,false)
 |some h=>(⟨yD b 12,(wU b h.toNat).1⟩,⟨yD b 16,(wU b h.toNat).2⟩,b.getD 9 0,h,true)
theorem wo {b:List Int} (h:lF b=none):FN b=(⟨0,0⟩,⟨0,0⟩,0,0,false):=by unfold FN;rw [h]
theorem DJ {b:List Int} {x:Int} (h:lF b=some x):FN b=(⟨yD b 12,(wU b x.toNat).1⟩,⟨yD b 16,(wU b x.toNat).2⟩,b.getD 9 0,x,true):=by unfold FN;rw [h]
section
variable {b:List Int}
theorem AeA (h:b.length<20):lF b=none:=by unfold lF;rw [ah h]
theorem Ab7 (h:¬ b.length<20) (h2:¬ b.getD 0 0 / 16=4 \/ eY b<20 \/ (b.length:Int)<eY b+8):lF b=none:=by unfold lF;rw [aj h,ah h2]
theorem AgK (h2:b.getD 0 0 / 16=4) (h3:¬ eY b<20) (h4:¬ (b.length:Int)<eY b+8):¬ (¬ b.getD 0 0 / 16=4 \/ eY b<20 \/ (b.length:Int)<eY b+8):=fun h=>h.elim (fun x=>x h2) (fun h=>h.elim h3 h4)
theorem ApM (h:¬ b.length<20) (h2:b.getD 0 0 / 16=4) (h3:¬ eY b<20) (h4:¬ (b.length:Int)<eY b+8) (h5:b.getD 9 0=17 \/ b.getD 9 0=6):lF b=some (eY b):=by unfold lF;rw [aj h,aj (AgK h2 h3 h4),ah h5]
theorem Ab8 (h:¬ b.length<20) (h2:b.getD 0 0 / 16=4) (h3:¬ eY b<20) (h4:¬ (b.length:Int)<eY b+8) (h5:b.getD 9 0=1) (h6:Cj (b.getD (eY b).toNat 0) (b.getD ((eY b).toNat+1) 0)=true):lF b=some (eY b):=by
 unfold lF;rw [aj h,aj (AgK h2 h3 h4),aj (fun e=>by rw [h5] at e;exact absurd e (by decide)),ah h5,ah h6]
theorem Qa (h:¬ b.length<20) (h1:¬ b.getD 9 0=17) (h2:¬ b.getD 9 0=6) (h6:Cj (b.getD (eY b).toNat 0) (b.getD ((eY b).toNat+1) 0)=false):lF b=none:=by
 unfold lF;rw [aj h]
 split
 ·rfl
 ·rw [aj (show ¬ (b.getD 9 0=17 \/ b.getD 9 0=6) from fun e=>e.elim h1 h2)]
  by_cases h5:b.getD 9 0=1
  ·rw [ah h5,aj (by rw [h6];decide)]
  ·rw [aj h5]
theorem ApN (h:¬ b.length<20) (h1:¬ b.getD 9 0=17) (h2:¬ b.getD 9 0=6) (h3:¬ b.getD 9 0=1):lF b=none:=by
 unfold lF;rw [aj h]
 split
 ·rfl
 ·rw [aj (show ¬ (b.getD 9 0=17 \/ b.getD 9 0=6) from fun e=>e.elim h1 h2)]
end
section
variable {w:World} {A:Option Addr} {ad:Addr} {n:Nat} {b:List Int} {x:Int}
theorem cb {w0:World} (HC:Aside0 (Kd.C (Kd.int .u8) w0 A n b)) (hB:Aside0 (Below w0.heap.size w0 w)):Aside0 (Kd.C (Kd.int .u8) w A n b):=⟨Kd.aJ HC.out hB.out⟩
theorem AeB (HC:Aside0 (Kd.C (Kd.int .u8) w A b.length b)) (h:0<b.length):∃ ad,A=some ad:=by
 obtain ⟨ad,e,_⟩:=Kd.dU HC.out 0 (by omega) (by omega);exact ⟨ad,e⟩
theorem AeC (HC:Aside0 (Kd.C (Kd.int .u8) w (some ad) b.length b)) (i:Int) (j:Nat) (e:i=(j:Int)) (h:j<b.length) (E:Aside0 (x=b.getD j 0)):w.cell? (ad.add i.toNat)=some (.int .u8 x):=by
 obtain ⟨ad_,e_,hx⟩:=Kd.dU HC.out i (by omega) (by omega);obtain rfl:=eF e_;rw [hx,jR b i j e,E.out]
theorem AvD (HC:Aside0 (Kd.C (Kd.int .u8) w (some ad) b.length b)) (h:0<b.length) (E:Aside0 (x=b.getD 0 0)):w.cell? ad=some (.int .u8 x):=by
 have h1:=AeC HC 0 0 rfl h E
 rwa [show (0:Int).toNat=0 from rfl,Addr.add_zero'] at h1
end
def yw.R3.T:Bool×List (List Nat×List Nat):=(true,[([],[]),([],[]),([0,0],[0]),([1,2,0,1,2],[1]),([3,0,1,2,3],[]),([4,0,1,2,3,4],[]),([5,0,1,2,3,4,5],[])])
theorem yw.R3.tab:rtab .any (opsOf Try.f91 3)=yw.R3.T:=by kernel_rfl
theorem yw.R3.bits:waitsOk yw.R3.T.2 [0,0,1,7,15,31,63]=true:=by kernel_rfl
def yw.R6.T:Bool×List (List Nat×List Nat):=(true,[([],[]),([],[]),([0,0],[0]),([1,2,0,1,2],[1]),([3,0,1,2,3],[]),([4,0,1,2,3,4],[]),([5,0,1,2,3,4,5],[])])
theorem yw.R6.tab:rtab .any (opsOf Try.f91 6)=yw.R6.T:=by kernel_rfl
theorem yw.R6.bits:waitsOk yw.R6.T.2 [0,0,1,7,15,31,63]=true:=by kernel_rfl
def yw.YG.T:Bool×List (List Nat×List Nat):=(true,[([],[]),([],[]),([],[]),([],[]),([0,0],[0]),([1,4,0,1,4],[1]),([2,5,0,1,2,4,5],[2]),([3,6,0,1,2,3,4,5,6],[3]),([7,0,1,2,3,4,5,6,7],[])])
theorem yw.YG.tab:rtab .any (opsOf Try.f91 19)=yw.YG.T:=by kernel_rfl
theorem yw.YG.bits:waitsOk yw.YG.T.2 [0,0,0,0,1,19,55,127,255]=true:=by kernel_rfl
def yw.R16.T:Bool×List (List Nat×List Nat):=(true,[([],[]),([],[]),([0,0],[0]),([1,2,0,1,2],[1]),([3,0,1,2,3],[]),([4,0,1,2,3,4],[]),([5,0,1,2,3,4,5],[])])
theorem yw.R16.tab:rtab .any (opsOf Try.f91 16)=yw.R16.T:=by kernel_rfl
theorem yw.R16.bits:waitsOk yw.R16.T.2 [0,0,1,7,15,31,63]=true:=by kernel_rfl
def yw.R10.T:Bool×List (List Nat×List Nat):=(true,[([],[]),([],[]),([0,0],[0]),([1,2,0,1,2],[1]),([3,0,1,2,3],[]),([4,0,1,2,3,4],[]),([5,0,1,2,3,4,5],[])])
theorem yw.R10.tab:rtab .any (opsOf Try.f91 10)=yw.R10.T:=by kernel_rfl
theorem yw.R10.bits:waitsOk yw.R10.T.2 [0,0,1,7,15,31,63]=true:=by kernel_rfl
theorem yw.calls (A:Option Addr) (c:Nat) (b:List Int) (w:World) (hB:jX b) (hn:b.length<=100000) (hC:Kd.C (Kd.int .u8) w A b.length b) (hL:b.length<=c):
  Calls Try.prog 91 #[.slice A b.length c] w fun e w'=>e= .returned (.tuple #[.agg #[.int .u32 (FN b).1.f0,.int .u16 (FN b).1.f1],.agg #[.int .u32 (FN b).2.1.f0,.int .u16 (FN b).2.1.f1],.int .u8 (FN b).2.2.1,.int .i64 (FN b).2.2.2.1,.bool (FN b).2.2.2.2]) /\ Below w.heap.size w w':=by
 have hu65:=Try.underlying65;have HB:=jy w;have HI65:Aside0 ((Try.prog.info? 65).map (·.size)=some 2):=⟨by kernel_rfl⟩
 have HC:=Aside0.mk hC;have HL:=Aside0.mk hL;have HI8:=Aside0.mk hB;have HN:=Aside0.mk hn;have hr:=tJ b;obtain ⟨x0,e0⟩:∃ x,x=b.getD 0 0:=⟨_,rfl⟩
 have E0:=Aside0.mk e0;obtain ⟨x9,e9⟩:∃ x,x=b.getD 9 0:=⟨_,rfl⟩
 have E9:=Aside0.mk e9;obtain ⟨hd,eh⟩:∃ x,x=eY b:=⟨_,rfl⟩
 have EH:=Aside0.mk eh;obtain ⟨y0,et⟩:∃ x,x=b.getD hd.toNat 0:=⟨_,rfl⟩
 have ET:=Aside0.mk et;obtain ⟨y1,ec⟩:∃ x,x=b.getD (hd.toNat+1) 0:=⟨_,rfl⟩
 have EC:=Aside0.mk ec;obtain ⟨h8,e8⟩:∃ x,x=hd+8:=⟨_,rfl⟩
 have E8:=Aside0.mk e8;obtain ⟨h1,e1⟩:∃ x,x=hd+1:=⟨_,rfl⟩
 have E1:=Aside0.mk e1;obtain ⟨h2,e2⟩:∃ x,x=hd+2:=⟨_,rfl⟩
 have E2:=Aside0.mk e2;obtain ⟨h4,e4⟩:∃ x,x=hd+4:=⟨_,rfl⟩
 have E4:=Aside0.mk e4;have E1w:Aside0 (wrap64 (hd+1)=h1):=⟨by rw [bQ (by omega) (by omega)];exact e1.symm⟩
 have w1_:wrap64 (hd+1)=h1:=by rw [bQ (by omega) (by omega)];exact e1.symm
 have w2_:wrap64 (hd+2)=h2:=by rw [bQ (by omega) (by omega)];exact e2.symm
 have w4_:wrap64 (hd+4)=h4:=by rw [bQ (by omega) (by omega)];exact e4.symm
 have w8_:wrap64 (hd+8)=h8:=by rw [bQ (by omega) (by omega)];exact e8.symm
 have wh_:wrap64 ((wrap64 (Go.bits .and .u8 x0 15))*4)=hd:=by
  have h:=NZ hB;rw [jR b 0 0 rfl,<- e0] at h
  exact h.trans eh.symm
 clear hC hL hB hn hr e0 e9 eh et ec e8 e1 e2 e4
 go_enter Try.func91,Try.ntmps91
 go_upto_region 2 with (first|((with_reducible refine gate_dst (N:=2) rfl ?_);refine box_event ?hg_ (N:=2) ?hd_ (cs:= #[.int .u32 0,.int .u16 0]) (t:=65) ?hr_ ?_;(case hd_=>rfl);(case hg_=>rfl);(case hr_=>first|(go_simp;done)|(go_simp;rfl));intro ga hgg_ w1 hbox_ hbb_;have I9:=Aside0.mk (show w.heap.size<=ga by rw [hgg_];exact below_size HB.out);have jQ:=Aside0.mk hbox_;have hb_:=hbb_;replace HB:=mB HB hb_;clear hb_;clear hgg_ hbox_ hbb_)|((with_reducible refine gate_dst (N:=3) rfl ?_);refine box_event ?hg_ (N:=3) ?hd_ (cs:= #[.int .u32 0,.int .u16 0]) (t:=65) ?hr_ ?_;(case hd_=>rfl);(case hg_=>rfl);(case hr_=>first|(go_simp;done)|(go_simp;rfl));intro gb hgg_ w2 hbox_ hbb_;have Ja:=Aside0.mk (show w.heap.size<=gb by rw [hgg_];exact below_size HB.out);have jW:=Aside0.mk hbox_;have iQ:Aside0 (ga≠gb):=⟨by rw [hgg_];exact (blk_less jQ).out⟩;have hb_:=hbb_;replace HB:=mB HB hb_;replace jQ:=mX jQ hb_;clear hb_;clear hgg_ hbox_ hbb_)|((with_reducible refine gate_dst (N:=7) rfl ?_);refine box_event ?hg_ (N:=7) ?hd_ (cs:= #[.int .u32 0,.int .u16 0]) (t:=65) ?hr_ ?_;(case hd_=>rfl);(case hg_=>rfl);(case hr_=>first|(go_simp;done)|(go_simp;rfl));intro gn hgg_ w3 hbox_ hbb_;have IV:=Aside0.mk (show w.heap.size<=gn by rw [hgg_];exact below_size HB.out);have bZ:=Aside0.mk hbox_;have nY:Aside0 (ga≠gn):=⟨by rw [hgg_];exact (blk_less jQ).out⟩;have nZ:Aside0 (gb≠gn):=⟨by rw [hgg_];exact (blk_less jW).out⟩;have hb_:=hbb_;replace HB:=mB HB hb_;replace jQ:=mX jQ hb_;replace jW:=mX jW hb_;clear hb_;clear hgg_ hbox_ hbb_))
 by_cases c1:b.length<20
 ·have Qb:=Aside0.mk c1
  have d1:decide ((b.length:Int)<20)=true:=bJ (by omega);have d2:decide (b.length<20)=true:=bJ c1;clear c1
  (try dsimp only)
  go_upto_region 3 with (fail)
  refine start_ (n:=7) (S:=fun w'=>w'.heap[gn]?=some (.cells #[.int .u32 0,.int .u16 0] 65 (0,0))) (ds:=[]) #[false,false,false,false,false,false,false] (by kernel_rfl) rfl rfl bZ.out (fun hHeld=> ?_);refine with_tabW yw.R3.tab yw.R3.bits (fun HT_ HW_=> ?_);have hb_:=below_drew1 (Below.refl w3.heap.size w3);replace HB:=mB HB hb_;replace jQ:=mX jQ hb_;replace jW:=mX jW hb_;replace bZ:=mX bZ hb_;clear hb_;generalize w3.drew=w4 at HB jQ jW bZ hHeld|-
  refine tv 0 22 (.agg #[.int .u32 0,.int .u16 0]) HT_ HW_ hHeld ?_ ?_
  ·intro w' s0
   exact rw_load (p:= .tmp 7) (ty:=65) (by rfl) (by rfl) s0 hu65 (by rfl) HI65.out
  refine nz 22 ?_;refine tv 1 23 (.agg #[.int .u32 0,.int .u16 0]) HT_ HW_ hHeld ?_ ?_
  ·intro w' s0
   exact rw_load (p:= .tmp 7) (ty:=65) (by rfl) (by rfl) s0 hu65 (by rfl) HI65.out
  refine nz 23 ?_;refine oz 2 (none) HT_ (fun K hK=> ?_);refine cu (by rfl) (by rfl) rfl rfl rfl jQ.out HI65.out rfl (by simp [Value.oneCell']) ?_;intro w5 hs_ off_;replace jW:=oN off_ jW (bC iQ);replace bZ:=oN off_ bZ (bC nY);replace HB:=oB off_ HB I9;clear off_;replace jQ:=Aside0.mk hs_;clear hs_;refine hK.out _ _ bZ.out (fun hHeld=> ?_);clear hK K;refine oz 3 (none) HT_ (fun K hK=> ?_);refine cu (by rfl) (by rfl) rfl rfl rfl jW.out HI65.out rfl (by simp [Value.oneCell']) ?_;intro w6 hs_ off_;replace jQ:=oN off_ jQ iQ;replace bZ:=oN off_ bZ (bC nZ);replace HB:=oB off_ HB Ja;clear off_;replace jW:=Aside0.mk hs_;clear hs_;refine hK.out _ _ bZ.out (fun hHeld=> ?_);clear hK K;refine pz 4 4 HT_ ?_;refine pz 5 5 HT_ ?_;refine pz 6 6 HT_ ?_;refine dz HT_ ?_
  clear HT_ HW_ hHeld
  (try dsimp only)
  go_wp2
  (try simp only [Exit.inBlock,Exit.then])
  refine bodyPost_ret (kU rfl _ _ _ _ _ _ _ _ (0,0) (0,0) _ _ rfl jQ.out hu65 rfl HI65.out rfl jW.out hu65 rfl HI65.out) rfl ?_;exact ⟨by rw [wo (AeA Qb.out)];rfl,HB.out⟩
 ·have Qb:=Aside0.mk c1
  have d1:decide ((b.length:Int)<20)=false:=jC (by omega);have d2:decide (b.length<20)=false:=jC c1;obtain ⟨ad,hA⟩:=AeB HC (by omega);subst hA;have x0_:=AvD (cb HC HB) (by omega) E0;have q0:(0<b.length)=True:=eq_true (by omega);have q0_:((0:Int)<(b.length:Int))=True:=eq_true (by omega);clear c1
  by_cases c2:x0 / 16=4
  ·have Kc2:=Aside0.mk c2
   have e1:(x0 / 16==4)=true:=jf c2;have e2:(x0 / 16 !=4)=false:=bne_eq_false_iff_eq.2 c2;clear c2
   go_upto_region 5 with (fail)
   clear e1 e2 d1 d2 x0_
   by_cases c3:hd<20
   ·have Kc3:=Aside0.mk c3
    have d3:decide (hd<20)=true:=bJ c3;clear c3
    (try dsimp only)
    go_upto_region 6 with (fail)
    refine start_ (n:=7) (S:=fun w'=>w'.heap[gn]?=some (.cells #[.int .u32 0,.int .u16 0] 65 (0,0))) (ds:=[]) #[false,false,false,false,false,false,false] (by kernel_rfl) rfl rfl bZ.out (fun hHeld=> ?_);refine with_tabW yw.R6.tab yw.R6.bits (fun HT_ HW_=> ?_);have hb_:=below_drew1 (Below.refl w3.heap.size w3);replace HB:=mB HB hb_;replace jQ:=mX jQ hb_;replace jW:=mX jW hb_;replace bZ:=mX bZ hb_;clear hb_;generalize w3.drew=w4 at HB jQ jW bZ hHeld|-
    refine tv 0 39 (.agg #[.int .u32 0,.int .u16 0]) HT_ HW_ hHeld ?_ ?_
    ·intro w' s0
     exact rw_load (p:= .tmp 7) (ty:=65) (by rfl) (by rfl) s0 hu65 (by rfl) HI65.out
    refine nz 39 ?_;refine tv 1 40 (.agg #[.int .u32 0,.int .u16 0]) HT_ HW_ hHeld ?_ ?_
    ·intro w' s0
     exact rw_load (p:= .tmp 7) (ty:=65) (by rfl) (by rfl) s0 hu65 (by rfl) HI65.out
    refine nz 40 ?_;refine oz 2 (none) HT_ (fun K hK=> ?_);refine cu (by rfl) (by rfl) rfl rfl rfl jQ.out HI65.out rfl (by simp [Value.oneCell']) ?_;intro w5 hs_ off_;replace jW:=oN off_ jW (bC iQ);replace bZ:=oN off_ bZ (bC nY);replace HB:=oB off_ HB I9;clear off_;replace jQ:=Aside0.mk hs_;clear hs_;refine hK.out _ _ bZ.out (fun hHeld=> ?_);clear hK K;refine oz 3 (none) HT_ (fun K hK=> ?_);refine cu (by rfl) (by rfl) rfl rfl rfl jW.out HI65.out rfl (by simp [Value.oneCell']) ?_;intro w6 hs_ off_;replace jQ:=oN off_ jQ iQ;replace bZ:=oN off_ bZ (bC nZ);replace HB:=oB off_ HB Ja;clear off_;replace jW:=Aside0.mk hs_;clear hs_;refine hK.out _ _ bZ.out (fun hHeld=> ?_);clear hK K;refine pz 4 4 HT_ ?_;refine pz 5 5 HT_ ?_;refine pz 6 6 HT_ ?_;refine dz HT_ ?_
    clear HT_ HW_ hHeld
    (try dsimp only)
    go_wp2
    (try simp only [Exit.inBlock,Exit.then])
    refine bodyPost_ret (kU rfl _ _ _ _ _ _ _ _ (0,0) (0,0) _ _ rfl jQ.out hu65 rfl HI65.out rfl jW.out hu65 rfl HI65.out) rfl ?_;exact ⟨by rw [wo (Ab7 Qb.out (.inr (.inl (EH.out ▸ Kc3.out))))];rfl,HB.out⟩
   ·have Kc3:=Aside0.mk c3
    have d3:decide (hd<20)=false:=jC c3;clear c3
    by_cases c4:(b.length:Int)<h8
    ·have Kc4:=Aside0.mk c4
     have d4:decide ((b.length:Int)<h8)=true:=bJ c4;clear c4
     (try dsimp only)
     go_upto_region 6 with (fail)
     refine start_ (n:=7) (S:=fun w'=>w'.heap[gn]?=some (.cells #[.int .u32 0,.int .u16 0] 65 (0,0))) (ds:=[]) #[false,false,false,false,false,false,false] (by kernel_rfl) rfl rfl bZ.out (fun hHeld=> ?_);refine with_tabW yw.R6.tab yw.R6.bits (fun HT_ HW_=> ?_);have hb_:=below_drew1 (Below.refl w3.heap.size w3);replace HB:=mB HB hb_;replace jQ:=mX jQ hb_;replace jW:=mX jW hb_;replace bZ:=mX bZ hb_;clear hb_;generalize w3.drew=w4 at HB jQ jW bZ hHeld|-
     refine tv 0 39 (.agg #[.int .u32 0,.int .u16 0]) HT_ HW_ hHeld ?_ ?_
     ·intro w' s0
      exact rw_load (p:= .tmp 7) (ty:=65) (by rfl) (by rfl) s0 hu65 (by rfl) HI65.out
     refine nz 39 ?_;refine tv 1 40 (.agg #[.int .u32 0,.int .u16 0]) HT_ HW_ hHeld ?_ ?_
     ·intro w' s0
      exact rw_load (p:= .tmp 7) (ty:=65) (by rfl) (by rfl) s0 hu65 (by rfl) HI65.out
     refine nz 40 ?_;refine oz 2 (none) HT_ (fun K hK=> ?_);refine cu (by rfl) (by rfl) rfl rfl rfl jQ.out HI65.out rfl (by simp [Value.oneCell']) ?_;intro w5 hs_ off_;replace jW:=oN off_ jW (bC iQ);replace bZ:=oN off_ bZ (bC nY);replace HB:=oB off_ HB I9;clear off_;replace jQ:=Aside0.mk hs_;clear hs_;refine hK.out _ _ bZ.out (fun hHeld=> ?_);clear hK K;refine oz 3 (none) HT_ (fun K hK=> ?_);refine cu (by rfl) (by rfl) rfl rfl rfl jW.out HI65.out rfl (by simp [Value.oneCell']) ?_;intro w6 hs_ off_;replace jQ:=oN off_ jQ iQ;replace bZ:=oN off_ bZ (bC nZ);replace HB:=oB off_ HB Ja;clear off_;replace jW:=Aside0.mk hs_;clear hs_;refine hK.out _ _ bZ.out (fun hHeld=> ?_);clear hK K;refine pz 4 4 HT_ ?_;refine pz 5 5 HT_ ?_;refine pz 6 6 HT_ ?_;refine dz HT_ ?_
     clear HT_ HW_ hHeld
     (try dsimp only)
     go_wp2
     (try simp only [Exit.inBlock,Exit.then])
     refine bodyPost_ret (kU rfl _ _ _ _ _ _ _ _ (0,0) (0,0) _ _ rfl jQ.out hu65 rfl HI65.out rfl jW.out hu65 rfl HI65.out) rfl ?_;exact ⟨by rw [wo (Ab7 Qb.out (.inr (.inr (EH.out ▸ E8.out ▸ Kc4.out))))];rfl,HB.out⟩
    ·have Kc4:=Aside0.mk c4
     have d4:decide ((b.length:Int)<h8)=false:=jC c4;clear c4;have HG:=Aside0.mk (show (0:Int)<=hd /\ hd+8<=(b.length:Int) /\ hd=eY b from ⟨by have:=Kc3.out;omega,by have h1:=Kc4.out;rw [E8.out] at h1;omega,EH.out⟩);clear q0 q0_
     go_wp2_with fail
     refine (eu.calls _ _ b 12 (yD b 12) _ (cb HC HB).out HL.out (xq HI8.out 12 (by have:=Qb.out;omega) (by have:=HN.out;omega))).mono ?_;rintro ev w_ ⟨rfl,⟨nd,rfl⟩⟩;have hb_:=fZ (Below.refl w3.heap.size w3) nd;replace HB:=mB HB hb_;replace jQ:=mX jQ hb_;replace jW:=mX jW hb_;replace bZ:=mX bZ hb_;clear hb_;generalize w3.drewN nd=w4 at HB jQ jW bZ|-
     (try dsimp only)
     go_wp2_with fail
     refine (eu.calls _ _ b 16 (yD b 16) _ (cb HC HB).out HL.out (xq HI8.out 16 (by have:=Qb.out;omega) (by have:=HN.out;omega))).mono ?_;rintro ev w_ ⟨rfl,⟨nd,rfl⟩⟩;have hb_:=fZ (Below.refl w4.heap.size w4) nd;replace HB:=mB HB hb_;replace jQ:=mX jQ hb_;replace jW:=mX jW hb_;replace bZ:=mX bZ hb_;clear hb_;generalize w4.drewN nd=w5 at HB jQ jW bZ|-
     (try dsimp only)
     go_upto_region 8 with (first|((with_reducible refine gate_dst (N:=9) rfl ?_);refine box_event ?hg_ (N:=9) ?hd_ (cs:= #[.int .u32 0,.int .u16 0]) (t:=65) ?hr_ ?_;(case hd_=>rfl);(case hg_=>rfl);(case hr_=>first|(go_simp;done)|(go_simp;rfl));intro gs hgg_ w6 hbox_ hbb_;have GHXs:=Aside0.mk (show w.heap.size<=gs by rw [hgg_];exact below_size HB.out);have HXs:=Aside0.mk hbox_;have mP:Aside0 (ga≠gs):=⟨by rw [hgg_];exact (blk_less jQ).out⟩;have mQ:Aside0 (gb≠gs):=⟨by rw [hgg_];exact (blk_less jW).out⟩;have yV:Aside0 (gn≠gs):=⟨by rw [hgg_];exact (blk_less bZ).out⟩;have hb_:=hbb_;replace HB:=mB HB hb_;replace jQ:=mX jQ hb_;replace jW:=mX jW hb_;replace bZ:=mX bZ hb_;clear hb_;clear hgg_ hbox_ hbb_)|((with_reducible refine gate_dst (N:=10) rfl ?_);refine box_event ?hg_ (N:=10) ?hd_ (cs:= #[.int .u32 0,.int .u16 0]) (t:=65) ?hr_ ?_;(case hd_=>rfl);(case hg_=>rfl);(case hr_=>first|(go_simp;done)|(go_simp;rfl));intro gd hgg_ w7 hbox_ hbb_;have GHXd:=Aside0.mk (show w.heap.size<=gd by rw [hgg_];exact below_size HB.out);have HXd:=Aside0.mk hbox_;have mW:Aside0 (ga≠gd):=⟨by rw [hgg_];exact (blk_less jQ).out⟩;have mY:Aside0 (gb≠gd):=⟨by rw [hgg_];exact (blk_less jW).out⟩;have yX:Aside0 (gn≠gd):=⟨by rw [hgg_];exact (blk_less bZ).out⟩;have NE_HXs_HXd:Aside0 (gs≠gd):=⟨by rw [hgg_];exact (blk_less HXs).out⟩;have hb_:=hbb_;replace HB:=mB HB hb_;replace jQ:=mX jQ hb_;replace jW:=mX jW hb_;replace bZ:=mX bZ hb_;replace HXs:=mX HXs hb_;clear hb_;clear hgg_ hbox_ hbb_)|((refine rw_putrow rfl rfl rfl rfl rfl HXs.out HI65.out rfl (by simp [Value.oneCell']) ?_);intro w8 hs_ off_;replace jQ:=oN off_ jQ mP;replace jW:=oN off_ jW mQ;replace bZ:=oN off_ bZ yV;replace HXd:=oN off_ HXd (bC NE_HXs_HXd);replace HB:=oB off_ HB GHXs;clear off_;replace HXs:=Aside0.mk hs_;clear hs_)|((refine rw_putrow rfl rfl rfl rfl rfl HXd.out HI65.out rfl (by simp [Value.oneCell']) ?_);intro w9 hs_ off_;replace jQ:=oN off_ jQ mW;replace jW:=oN off_ jW mY;replace bZ:=oN off_ bZ yX;replace HXs:=oN off_ HXs NE_HXs_HXd;replace HB:=oB off_ HB GHXd;clear off_;replace HXd:=Aside0.mk hs_;clear hs_))
     have x9_:=AeC (cb HC HB) 9 9 rfl (by have:=Qb.out;omega) E9;simp only [show (9:Int).toNat=9 from rfl,Nat.reduceMul,Nat.reduceEqDiff,Go.Addr.add,↓reduceIte] at x9_
     have q9:(9<b.length)=True:=eq_true (by have:=Qb.out;omega);have q9_:((9:Int)<(b.length:Int))=True:=eq_true (by have:=Qb.out;omega)
     by_cases p17:x9=17
     ·have MH:=Aside0.mk p17
      have e1:(x9==17)=true:=jf p17;clear p17
      go_upto_region 13 with (fail)
      clear x9_ q9 q9_
      go_wp2_with fail
      refine (aN.calls _ _ b hd (g16 b hd.toNat) _ (cb HC HB).out HL.out (by have h:=kG HI8.out hd.toNat (by have:=HG.out;omega) (by have:=HN.out;omega);rwa [Int.toNat_of_nonneg HG.out.1] at h)).mono ?_;rintro ev w_ ⟨rfl,⟨nd,rfl⟩⟩;have hb_:=fZ (Below.refl w9.heap.size w9) nd;replace HB:=mB HB hb_;replace jQ:=mX jQ hb_;replace jW:=mX jW hb_;replace bZ:=mX bZ hb_;replace HXs:=mX HXs hb_;replace HXd:=mX HXd hb_;clear hb_;generalize w9.drewN nd=w10 at HB jQ jW bZ HXs HXd|-
      (try dsimp only)
      go_wp2_with fail
      refine (aN.calls _ _ b h2 (g16 b (hd.toNat+2)) _ (cb HC HB).out HL.out (by have h:=kG HI8.out (hd.toNat+2) (by have:=HG.out;omega) (by have:=HN.out;omega);rwa [show ((hd.toNat+2:Nat):Int)=h2 by have:=HG.out;have:=E2.out;omega] at h)).mono ?_;rintro ev w_ ⟨rfl,⟨nd,rfl⟩⟩;have hb_:=fZ (Below.refl w10.heap.size w10) nd;replace HB:=mB HB hb_;replace jQ:=mX jQ hb_;replace jW:=mX jW hb_;replace bZ:=mX bZ hb_;replace HXs:=mX HXs hb_;replace HXd:=mX HXd hb_;clear hb_;generalize w10.drewN nd=w11 at HB jQ jW bZ HXs HXd|-
      (try dsimp only)
      go_upto_region 19 with (first|((refine rw_set rfl rfl (i:=1) (v:= .int .u16 (g16 b hd.toNat)) (cs':= #[.int .u32 (yD b 12),.int .u16 (g16 b hd.toNat)]) HXs.out rfl ?hr_ ?_);(case hr_=>(have m_:=(blk_cell HXs.out 1).trans (rfl:_=some (.int .u16 0:Value)));(have mf_:=blk_frozen HXs.out 1);first|(go_simp;done)|(go_simp;rfl));intro w12 hs_ off_;replace jQ:=oN off_ jQ mP;replace jW:=oN off_ jW mQ;replace bZ:=oN off_ bZ yV;replace HXd:=oN off_ HXd (bC NE_HXs_HXd);replace HB:=oB off_ HB GHXs;clear off_;replace HXs:=Aside0.mk hs_;clear hs_)|((refine rw_set rfl rfl (i:=1) (v:= .int .u16 (g16 b (hd.toNat+2))) (cs':= #[.int .u32 (yD b 16),.int .u16 (g16 b (hd.toNat+2))]) HXd.out rfl ?hr_ ?_);(case hr_=>(have m_:=(blk_cell HXd.out 1).trans (rfl:_=some (.int .u16 0:Value)));(have mf_:=blk_frozen HXd.out 1);first|(go_simp;done)|(go_simp;rfl));intro w13 hs_ off_;replace jQ:=oN off_ jQ mW;replace jW:=oN off_ jW mY;replace bZ:=oN off_ bZ yX;replace HXs:=oN off_ HXs NE_HXs_HXd;replace HB:=oB off_ HB GHXd;clear off_;replace HXd:=Aside0.mk hs_;clear hs_))
      refine start_ (n:=9) (S:=fun w'=>w'.heap[gs]?=some (.cells #[.int .u32 (yD b 12),.int .u16 (g16 b hd.toNat)] 65 (0,0)) /\ w'.heap[gd]?=some (.cells #[.int .u32 (yD b 16),.int .u16 (g16 b (hd.toNat+2))] 65 (0,0))) (ds:=[]) #[false,false,false,false,false,false,false,false,false] (by kernel_rfl) rfl rfl ⟨HXs.out,HXd.out⟩ (fun hHeld=> ?_);refine with_tabW yw.YG.tab yw.YG.bits (fun HT_ HW_=> ?_);have hb_:=below_drew1 (Below.refl w13.heap.size w13);replace HB:=mB HB hb_;replace jQ:=mX jQ hb_;replace jW:=mX jW hb_;replace bZ:=mX bZ hb_;replace HXs:=mX HXs hb_;replace HXd:=mX HXd hb_;clear hb_;generalize w13.drew=w14 at HB jQ jW bZ HXs HXd hHeld|-
      refine pz 2 99 HT_ ?_;refine pz 3 100 HT_ ?_;refine tv 0 97 (.agg #[.int .u32 (yD b 12),.int .u16 (g16 b hd.toNat)]) HT_ HW_ hHeld ?_ ?_
      ·intro w' s0
       obtain ⟨s0,s1⟩:=s0;exact rw_load (p:= .tmp 9) (ty:=65) (by rfl) (by rfl) s0 hu65 (by rfl) HI65.out
      refine nz 97 ?_;refine tv 1 98 (.agg #[.int .u32 (yD b 16),.int .u16 (g16 b (hd.toNat+2))]) HT_ HW_ hHeld ?_ ?_
      ·intro w' s0
       obtain ⟨s0,s1⟩:=s0;exact rw_load (p:= .tmp 10) (ty:=65) (by rfl) (by rfl) s1 hu65 (by rfl) HI65.out
      refine nz 98 ?_;refine oz 4 (none) HT_ (fun K hK=> ?_);refine cu (by rfl) (by rfl) rfl rfl rfl jQ.out HI65.out rfl (by simp [Value.oneCell']) ?_;intro w15 hs_ off_;replace jW:=oN off_ jW (bC iQ);replace bZ:=oN off_ bZ (bC nY);replace HXs:=oN off_ HXs (bC mP);replace HXd:=oN off_ HXd (bC mW);replace HB:=oB off_ HB I9;clear off_;replace jQ:=Aside0.mk hs_;clear hs_;refine hK.out _ _ ⟨HXs.out,HXd.out⟩ (fun hHeld=> ?_);clear hK K;refine oz 5 (none) HT_ (fun K hK=> ?_);refine cu (by rfl) (by rfl) rfl rfl rfl jW.out HI65.out rfl (by simp [Value.oneCell']) ?_;intro w16 hs_ off_;replace jQ:=oN off_ jQ iQ;replace bZ:=oN off_ bZ (bC nZ);replace HXs:=oN off_ HXs (bC mQ);replace HXd:=oN off_ HXd (bC mY);replace HB:=oB off_ HB Ja
      clear off_;replace jW:=Aside0.mk hs_;clear hs_;refine hK.out _ _ ⟨HXs.out,HXd.out⟩ (fun hHeld=> ?_);clear hK K;refine pz 6 4 HT_ ?_;refine pz 7 5 HT_ ?_;refine pz 8 6 HT_ ?_;refine dz HT_ ?_;clear HT_ HW_ hHeld
      (try dsimp only)
      go_wp2
      (try simp only [Exit.inBlock,Exit.then])
      refine bodyPost_ret (kU rfl _ _ _ _ _ _ _ _ (0,0) (0,0) _ _ rfl jQ.out hu65 rfl HI65.out rfl jW.out hu65 rfl HI65.out) rfl ?_;exact ⟨by rw [DJ (ApM Qb.out (E0.out ▸ Kc2.out) (by have h1:=Kc3.out;have h2:=EH.out;omega) (by have h1:=Kc4.out;have h2:=EH.out;have h3:=E8.out;omega) (E9.out ▸ .inl MH.out)),<- EH.out,<- E9.out];unfold wU;rw [aj (fun e_=>absurd (E9.out.trans e_) (by first|(rw [MH.out];decide)|(rw [Kp6.out];decide)))];rfl,HB.out⟩
     ·have MH:=Aside0.mk p17
      by_cases p6:x9=6
      ·have Kp6:=Aside0.mk p6
       have e1:(x9==6)=true:=jf p6;clear p6;have e0:(x9==17)=false:=iM MH.out
       go_upto_region 13 with (fail)
       clear x9_ q9 q9_
       go_wp2_with fail
       refine (aN.calls _ _ b hd (g16 b hd.toNat) _ (cb HC HB).out HL.out (by have h:=kG HI8.out hd.toNat (by have:=HG.out;omega) (by have:=HN.out;omega);rwa [Int.toNat_of_nonneg HG.out.1] at h)).mono ?_;rintro ev w_ ⟨rfl,⟨nd,rfl⟩⟩;have hb_:=fZ (Below.refl w9.heap.size w9) nd;replace HB:=mB HB hb_;replace jQ:=mX jQ hb_;replace jW:=mX jW hb_;replace bZ:=mX bZ hb_;replace HXs:=mX HXs hb_;replace HXd:=mX HXd hb_;clear hb_;generalize w9.drewN nd=w10 at HB jQ jW bZ HXs HXd|-
       (try dsimp only)
       go_wp2_with fail
       refine (aN.calls _ _ b h2 (g16 b (hd.toNat+2)) _ (cb HC HB).out HL.out (by have h:=kG HI8.out (hd.toNat+2) (by have:=HG.out;omega) (by have:=HN.out;omega);rwa [show ((hd.toNat+2:Nat):Int)=h2 by have:=HG.out;have:=E2.out;omega] at h)).mono ?_;rintro ev w_ ⟨rfl,⟨nd,rfl⟩⟩;have hb_:=fZ (Below.refl w10.heap.size w10) nd;replace HB:=mB HB hb_;replace jQ:=mX jQ hb_;replace jW:=mX jW hb_;replace bZ:=mX bZ hb_;replace HXs:=mX HXs hb_;replace HXd:=mX HXd hb_;clear hb_;generalize w10.drewN nd=w11 at HB jQ jW bZ HXs HXd|-
       (try dsimp only)
       go_upto_region 19 with (first|((refine rw_set rfl rfl (i:=1) (v:= .int .u16 (g16 b hd.toNat)) (cs':= #[.int .u32 (yD b 12),.int .u16 (g16 b hd.toNat)]) HXs.out rfl ?hr_ ?_);(case hr_=>(have m_:=(blk_cell HXs.out 1).trans (rfl:_=some (.int .u16 0:Value)));(have mf_:=blk_frozen HXs.out 1);first|(go_simp;done)|(go_simp;rfl));intro w12 hs_ off_;replace jQ:=oN off_ jQ mP;replace jW:=oN off_ jW mQ;replace bZ:=oN off_ bZ yV;replace HXd:=oN off_ HXd (bC NE_HXs_HXd);replace HB:=oB off_ HB GHXs;clear off_;replace HXs:=Aside0.mk hs_;clear hs_)|((refine rw_set rfl rfl (i:=1) (v:= .int .u16 (g16 b (hd.toNat+2))) (cs':= #[.int .u32 (yD b 16),.int .u16 (g16 b (hd.toNat+2))]) HXd.out rfl ?hr_ ?_);(case hr_=>(have m_:=(blk_cell HXd.out 1).trans (rfl:_=some (.int .u16 0:Value)));(have mf_:=blk_frozen HXd.out 1);first|(go_simp;done)|(go_simp;rfl));intro w13 hs_ off_;replace jQ:=oN off_ jQ mW;replace jW:=oN off_ jW mY;replace bZ:=oN off_ bZ yX;replace HXs:=oN off_ HXs NE_HXs_HXd;replace HB:=oB off_ HB GHXd;clear off_;replace HXd:=Aside0.mk hs_;clear hs_))
       refine start_ (n:=9) (S:=fun w'=>w'.heap[gs]?=some (.cells #[.int .u32 (yD b 12),.int .u16 (g16 b hd.toNat)] 65 (0,0)) /\ w'.heap[gd]?=some (.cells #[.int .u32 (yD b 16),.int .u16 (g16 b (hd.toNat+2))] 65 (0,0))) (ds:=[]) #[false,false,false,false,false,false,false,false,false] (by kernel_rfl) rfl rfl ⟨HXs.out,HXd.out⟩ (fun hHeld=> ?_);refine with_tabW yw.YG.tab yw.YG.bits (fun HT_ HW_=> ?_);have hb_:=below_drew1 (Below.refl w13.heap.size w13);replace HB:=mB HB hb_;replace jQ:=mX jQ hb_;replace jW:=mX jW hb_;replace bZ:=mX bZ hb_;replace HXs:=mX HXs hb_;replace HXd:=mX HXd hb_;clear hb_;generalize w13.drew=w14 at HB jQ jW bZ HXs HXd hHeld|-
       refine pz 2 99 HT_ ?_;refine pz 3 100 HT_ ?_;refine tv 0 97 (.agg #[.int .u32 (yD b 12),.int .u16 (g16 b hd.toNat)]) HT_ HW_ hHeld ?_ ?_
       ·intro w' s0
        obtain ⟨s0,s1⟩:=s0;exact rw_load (p:= .tmp 9) (ty:=65) (by rfl) (by rfl) s0 hu65 (by rfl) HI65.out
       refine nz 97 ?_;refine tv 1 98 (.agg #[.int .u32 (yD b 16),.int .u16 (g16 b (hd.toNat+2))]) HT_ HW_ hHeld ?_ ?_
       ·intro w' s0
        obtain ⟨s0,s1⟩:=s0;exact rw_load (p:= .tmp 10) (ty:=65) (by rfl) (by rfl) s1 hu65 (by rfl) HI65.out
       refine nz 98 ?_;refine oz 4 (none) HT_ (fun K hK=> ?_);refine cu (by rfl) (by rfl) rfl rfl rfl jQ.out HI65.out rfl (by simp [Value.oneCell']) ?_;intro w15 hs_ off_;replace jW:=oN off_ jW (bC iQ);replace bZ:=oN off_ bZ (bC nY);replace HXs:=oN off_ HXs (bC mP);replace HXd:=oN off_ HXd (bC mW);replace HB:=oB off_ HB I9;clear off_;replace jQ:=Aside0.mk hs_;clear hs_;refine hK.out _ _ ⟨HXs.out,HXd.out⟩ (fun hHeld=> ?_);clear hK K;refine oz 5 (none) HT_ (fun K hK=> ?_);refine cu (by rfl) (by rfl) rfl rfl rfl jW.out HI65.out rfl (by simp [Value.oneCell']) ?_;intro w16 hs_ off_;replace jQ:=oN off_ jQ iQ;replace bZ:=oN off_ bZ (bC nZ);replace HXs:=oN off_ HXs (bC mQ);replace HXd:=oN off_ HXd (bC mY);replace HB:=oB off_ HB Ja
       clear off_;replace jW:=Aside0.mk hs_;clear hs_;refine hK.out _ _ ⟨HXs.out,HXd.out⟩ (fun hHeld=> ?_);clear hK K;refine pz 6 4 HT_ ?_;refine pz 7 5 HT_ ?_;refine pz 8 6 HT_ ?_;refine dz HT_ ?_;clear HT_ HW_ hHeld
       (try dsimp only)
       go_wp2
       (try simp only [Exit.inBlock,Exit.then])
       refine bodyPost_ret (kU rfl _ _ _ _ _ _ _ _ (0,0) (0,0) _ _ rfl jQ.out hu65 rfl HI65.out rfl jW.out hu65 rfl HI65.out) rfl ?_;exact ⟨by rw [DJ (ApM Qb.out (E0.out ▸ Kc2.out) (by have h1:=Kc3.out;have h2:=EH.out;omega) (by have h1:=Kc4.out;have h2:=EH.out;have h3:=E8.out;omega) (E9.out ▸ .inr Kp6.out)),<- EH.out,<- E9.out];unfold wU;rw [aj (fun e_=>absurd (E9.out.trans e_) (by first|(rw [MH.out];decide)|(rw [Kp6.out];decide)))];rfl,HB.out⟩
      ·have Kp6:=Aside0.mk p6
       by_cases p1:x9=1
       ·have Kp1:=Aside0.mk p1
        have e1:(x9==1)=true:=jf p1;clear p1;have e0:(x9==17)=false:=iM MH.out;have e6:(x9==6)=false:=iM Kp6.out
        (try dsimp only)
        go_upto_region 15 with (fail)
        clear x9_ q9 q9_ e0 e1 e6;have y0_:=AeC (cb HC HB) hd hd.toNat (Int.toNat_of_nonneg HG.out.1).symm (by have:=HG.out;omega) ET;have y1_:=AeC (cb HC HB) h1 (hd.toNat+1) (by have:=HG.out;have:=E1.out;omega) (by have:=HG.out;omega) EC;have q1:(0<=hd)=True:=eq_true HG.out.1;have q2:(hd<(b.length:Int))=True:=eq_true (by have:=HG.out;omega);have q3:(0<=h1)=True:=eq_true (by have:=HG.out;have:=E1.out;omega);have q4:(h1<(b.length:Int))=True:=eq_true (by have:=HG.out;have:=E1.out;omega);have hh1:=E1w.out
        by_cases s8:y0=8
        ·have Ks8:=Aside0.mk s8
         have t8:(y0==8)=true:=jf s8;have t8n:(y0 !=8)=false:=by rw [bne,t8];rfl
         clear s8
         by_cases s1:y1=0
         ·have Ks1:=Aside0.mk s1
          have u0:(y1==0)=true:=jf s1;have u1:(y1 !=0)=false:=by rw [bne,u0];rfl
          clear s1
          (try dsimp only)
          go_upto_region 17 with (fail)
          clear u0 u1;clear t8 t8n y0_ y1_ q1 q2 q3 q4 hh1
          go_wp2_with fail
          refine (aN.calls _ _ b h4 (g16 b (hd.toNat+4)) _ (cb HC HB).out HL.out (by have h:=kG HI8.out (hd.toNat+4) (by have:=HG.out;omega) (by have:=HN.out;omega);rwa [show ((hd.toNat+4:Nat):Int)=h4 by have:=HG.out;have:=E4.out;omega] at h)).mono ?_;rintro ev w_ ⟨rfl,⟨nd,rfl⟩⟩;have hb_:=fZ (Below.refl w9.heap.size w9) nd;replace HB:=mB HB hb_;replace jQ:=mX jQ hb_;replace jW:=mX jW hb_;replace bZ:=mX bZ hb_;replace HXs:=mX HXs hb_;replace HXd:=mX HXd hb_;clear hb_;generalize w9.drewN nd=w10 at HB jQ jW bZ HXs HXd|-
          (try dsimp only)
          go_upto_region 18 with (((refine rw_set rfl rfl (i:=1) (v:= .int .u16 (g16 b (hd.toNat+4))) (cs':= #[.int .u32 (yD b 12),.int .u16 (g16 b (hd.toNat+4))]) HXs.out rfl ?hr_ ?_);(case hr_=>(have m_:=(blk_cell HXs.out 1).trans (rfl:_=some (.int .u16 0:Value)));(have mf_:=blk_frozen HXs.out 1);first|(go_simp;done)|(go_simp;rfl));intro w11 hs_ off_;replace jQ:=oN off_ jQ mP;replace jW:=oN off_ jW mQ;replace bZ:=oN off_ bZ yV;replace HXd:=oN off_ HXd (bC NE_HXs_HXd);replace HB:=oB off_ HB GHXs;clear off_;replace HXs:=Aside0.mk hs_;clear hs_))
          have gs_1:=cz HXs.out 1 rfl
          go_upto_region 19 with (((refine rw_set rfl rfl (i:=1) (v:= .int .u16 (g16 b (hd.toNat+4))) (cs':= #[.int .u32 (yD b 16),.int .u16 (g16 b (hd.toNat+4))]) HXd.out rfl ?hr_ ?_);(case hr_=>(have m_:=(blk_cell HXd.out 1).trans (rfl:_=some (.int .u16 0:Value)));(have mf_:=blk_frozen HXd.out 1);first|(go_simp;done)|(go_simp;rfl));intro w12 hs_ off_;replace jQ:=oN off_ jQ mW;replace jW:=oN off_ jW mY;replace bZ:=oN off_ bZ yX;replace HXs:=oN off_ HXs NE_HXs_HXd;replace HB:=oB off_ HB GHXd;clear off_;replace HXd:=Aside0.mk hs_;clear hs_))
          clear gs_1;refine start_ (n:=9) (S:=fun w'=>w'.heap[gs]?=some (.cells #[.int .u32 (yD b 12),.int .u16 (g16 b (hd.toNat+4))] 65 (0,0)) /\ w'.heap[gd]?=some (.cells #[.int .u32 (yD b 16),.int .u16 (g16 b (hd.toNat+4))] 65 (0,0))) (ds:=[]) #[false,false,false,false,false,false,false,false,false] (by kernel_rfl) rfl rfl ⟨HXs.out,HXd.out⟩ (fun hHeld=> ?_);refine with_tabW yw.YG.tab yw.YG.bits (fun HT_ HW_=> ?_);have hb_:=below_drew1 (Below.refl w12.heap.size w12);replace HB:=mB HB hb_;replace jQ:=mX jQ hb_;replace jW:=mX jW hb_;replace bZ:=mX bZ hb_;replace HXs:=mX HXs hb_;replace HXd:=mX HXd hb_;clear hb_;generalize w12.drew=w13 at HB jQ jW bZ HXs HXd hHeld|-
          refine pz 2 99 HT_ ?_;refine pz 3 100 HT_ ?_;refine tv 0 97 (.agg #[.int .u32 (yD b 12),.int .u16 (g16 b (hd.toNat+4))]) HT_ HW_ hHeld ?_ ?_
          ·intro w' s0
           obtain ⟨s0,s1⟩:=s0;exact rw_load (p:= .tmp 9) (ty:=65) (by rfl) (by rfl) s0 hu65 (by rfl) HI65.out
          refine nz 97 ?_;refine tv 1 98 (.agg #[.int .u32 (yD b 16),.int .u16 (g16 b (hd.toNat+4))]) HT_ HW_ hHeld ?_ ?_
          ·intro w' s0
           obtain ⟨s0,s1⟩:=s0;exact rw_load (p:= .tmp 10) (ty:=65) (by rfl) (by rfl) s1 hu65 (by rfl) HI65.out
          refine nz 98 ?_;refine oz 4 (none) HT_ (fun K hK=> ?_);refine cu (by rfl) (by rfl) rfl rfl rfl jQ.out HI65.out rfl (by simp [Value.oneCell']) ?_;intro w14 hs_ off_;replace jW:=oN off_ jW (bC iQ);replace bZ:=oN off_ bZ (bC nY);replace HXs:=oN off_ HXs (bC mP);replace HXd:=oN off_ HXd (bC mW);replace HB:=oB off_ HB I9;clear off_;replace jQ:=Aside0.mk hs_;clear hs_;refine hK.out _ _ ⟨HXs.out,HXd.out⟩ (fun hHeld=> ?_);clear hK K;refine oz 5 (none) HT_ (fun K hK=> ?_);refine cu (by rfl) (by rfl) rfl rfl rfl jW.out HI65.out rfl (by simp [Value.oneCell']) ?_;intro w15 hs_ off_;replace jQ:=oN off_ jQ iQ;replace bZ:=oN off_ bZ (bC nZ);replace HXs:=oN off_ HXs (bC mQ);replace HXd:=oN off_ HXd (bC mY);replace HB:=oB off_ HB Ja
          clear off_;replace jW:=Aside0.mk hs_;clear hs_;refine hK.out _ _ ⟨HXs.out,HXd.out⟩ (fun hHeld=> ?_);clear hK K;refine pz 6 4 HT_ ?_;refine pz 7 5 HT_ ?_;refine pz 8 6 HT_ ?_;refine dz HT_ ?_;clear HT_ HW_ hHeld
          (try dsimp only)
          go_wp2
          (try simp only [Exit.inBlock,Exit.then])
          refine bodyPost_ret (kU rfl _ _ _ _ _ _ _ _ (0,0) (0,0) _ _ rfl jQ.out hu65 rfl HI65.out rfl jW.out hu65 rfl HI65.out) rfl ?_;exact ⟨by rw [DJ (Ab8 Qb.out (E0.out ▸ Kc2.out) (by have h1:=Kc3.out;have h2:=EH.out;omega) (by have h1:=Kc4.out;have h2:=EH.out;have h3:=E8.out;omega) (E9.out ▸ Kp1.out) (by rw [<- EH.out,<- ET.out,<- EC.out,Ks1.out];unfold Cj;rw [Ks8.out];rfl)),<- EH.out,<- E9.out];unfold wU;rw [ah (E9.out ▸ Kp1.out)];rfl,HB.out⟩
         ·have Ks1:=Aside0.mk s1
          have u0:(y1==0)=false:=iM s1;have u1:(y1 !=0)=true:=by rw [bne,u0];rfl
          clear s1
          (try dsimp only)
          go_upto_region 16 with (fail)
          refine start_ (n:=7) (S:=fun w'=>w'.heap[gn]?=some (.cells #[.int .u32 0,.int .u16 0] 65 (0,0))) (ds:=[]) #[false,false,false,false,false,false,false] (by kernel_rfl) rfl rfl bZ.out (fun hHeld=> ?_);refine with_tabW yw.R16.tab yw.R16.bits (fun HT_ HW_=> ?_);have hb_:=below_drew1 (Below.refl w9.heap.size w9);replace HB:=mB HB hb_;replace jQ:=mX jQ hb_;replace jW:=mX jW hb_;replace bZ:=mX bZ hb_;replace HXs:=mX HXs hb_;replace HXd:=mX HXd hb_;clear hb_;generalize w9.drew=w10 at HB jQ jW bZ HXs HXd hHeld|-
          refine tv 0 87 (.agg #[.int .u32 0,.int .u16 0]) HT_ HW_ hHeld ?_ ?_
          ·intro w' s0
           exact rw_load (p:= .tmp 7) (ty:=65) (by rfl) (by rfl) s0 hu65 (by rfl) HI65.out
          refine nz 87 ?_;refine tv 1 88 (.agg #[.int .u32 0,.int .u16 0]) HT_ HW_ hHeld ?_ ?_
          ·intro w' s0
           exact rw_load (p:= .tmp 7) (ty:=65) (by rfl) (by rfl) s0 hu65 (by rfl) HI65.out
          refine nz 88 ?_;refine oz 2 (none) HT_ (fun K hK=> ?_);refine cu (by rfl) (by rfl) rfl rfl rfl jQ.out HI65.out rfl (by simp [Value.oneCell']) ?_;intro w11 hs_ off_;replace jW:=oN off_ jW (bC iQ);replace bZ:=oN off_ bZ (bC nY);replace HXs:=oN off_ HXs (bC mP);replace HXd:=oN off_ HXd (bC mW);replace HB:=oB off_ HB I9;clear off_;replace jQ:=Aside0.mk hs_;clear hs_;refine hK.out _ _ bZ.out (fun hHeld=> ?_);clear hK K;refine oz 3 (none) HT_ (fun K hK=> ?_);refine cu (by rfl) (by rfl) rfl rfl rfl jW.out HI65.out rfl (by simp [Value.oneCell']) ?_;intro w12 hs_ off_;replace jQ:=oN off_ jQ iQ;replace bZ:=oN off_ bZ (bC nZ);replace HXs:=oN off_ HXs (bC mQ);replace HXd:=oN off_ HXd (bC mY);replace HB:=oB off_ HB Ja
          clear off_;replace jW:=Aside0.mk hs_;clear hs_;refine hK.out _ _ bZ.out (fun hHeld=> ?_);clear hK K;refine pz 4 4 HT_ ?_;refine pz 5 5 HT_ ?_;refine pz 6 6 HT_ ?_;refine dz HT_ ?_;clear HT_ HW_ hHeld
          (try dsimp only)
          go_wp2
          (try simp only [Exit.inBlock,Exit.then])
          refine bodyPost_ret (kU rfl _ _ _ _ _ _ _ _ (0,0) (0,0) _ _ rfl jQ.out hu65 rfl HI65.out rfl jW.out hu65 rfl HI65.out) rfl ?_;exact ⟨by rw [wo (Qa Qb.out (E9.out ▸ MH.out) (E9.out ▸ Kp6.out) (by rw [<- EH.out,<- ET.out,<- EC.out];unfold Cj;rw [iM Ks1.out,Bool.and_false]))];rfl,HB.out⟩
        ·have Ks8:=Aside0.mk s8
         have t8:(y0==8)=false:=iM s8;have t8n:(y0 !=8)=true:=by rw [bne,t8];rfl
         clear s8
         by_cases s0:y0=0
         ·have Ks0:=Aside0.mk s0
          have t0:(y0==0)=true:=jf s0;have t0n:(y0 !=0)=false:=by rw [bne,t0];rfl
          clear s0
          by_cases s1:y1=0
          ·have Ks1:=Aside0.mk s1
           have u0:(y1==0)=true:=jf s1;have u1:(y1 !=0)=false:=by rw [bne,u0];rfl
           clear s1
           (try dsimp only)
           go_upto_region 17 with (fail)
           clear t0 t0n u0 u1;clear t8 t8n y0_ y1_ q1 q2 q3 q4 hh1
           go_wp2_with fail
           refine (aN.calls _ _ b h4 (g16 b (hd.toNat+4)) _ (cb HC HB).out HL.out (by have h:=kG HI8.out (hd.toNat+4) (by have:=HG.out;omega) (by have:=HN.out;omega);rwa [show ((hd.toNat+4:Nat):Int)=h4 by have:=HG.out;have:=E4.out;omega] at h)).mono ?_;rintro ev w_ ⟨rfl,⟨nd,rfl⟩⟩;have hb_:=fZ (Below.refl w9.heap.size w9) nd;replace HB:=mB HB hb_;replace jQ:=mX jQ hb_;replace jW:=mX jW hb_;replace bZ:=mX bZ hb_;replace HXs:=mX HXs hb_;replace HXd:=mX HXd hb_;clear hb_;generalize w9.drewN nd=w10 at HB jQ jW bZ HXs HXd|-
           (try dsimp only)
           go_upto_region 18 with (((refine rw_set rfl rfl (i:=1) (v:= .int .u16 (g16 b (hd.toNat+4))) (cs':= #[.int .u32 (yD b 12),.int .u16 (g16 b (hd.toNat+4))]) HXs.out rfl ?hr_ ?_);(case hr_=>(have m_:=(blk_cell HXs.out 1).trans (rfl:_=some (.int .u16 0:Value)));(have mf_:=blk_frozen HXs.out 1);first|(go_simp;done)|(go_simp;rfl));intro w11 hs_ off_;replace jQ:=oN off_ jQ mP;replace jW:=oN off_ jW mQ;replace bZ:=oN off_ bZ yV;replace HXd:=oN off_ HXd (bC NE_HXs_HXd);replace HB:=oB off_ HB GHXs;clear off_;replace HXs:=Aside0.mk hs_;clear hs_))
           have gs_1:=cz HXs.out 1 rfl
           go_upto_region 19 with (((refine rw_set rfl rfl (i:=1) (v:= .int .u16 (g16 b (hd.toNat+4))) (cs':= #[.int .u32 (yD b 16),.int .u16 (g16 b (hd.toNat+4))]) HXd.out rfl ?hr_ ?_);(case hr_=>(have m_:=(blk_cell HXd.out 1).trans (rfl:_=some (.int .u16 0:Value)));(have mf_:=blk_frozen HXd.out 1);first|(go_simp;done)|(go_simp;rfl));intro w12 hs_ off_;replace jQ:=oN off_ jQ mW;replace jW:=oN off_ jW mY;replace bZ:=oN off_ bZ yX;replace HXs:=oN off_ HXs NE_HXs_HXd;replace HB:=oB off_ HB GHXd;clear off_;replace HXd:=Aside0.mk hs_;clear hs_))
           clear gs_1;refine start_ (n:=9) (S:=fun w'=>w'.heap[gs]?=some (.cells #[.int .u32 (yD b 12),.int .u16 (g16 b (hd.toNat+4))] 65 (0,0)) /\ w'.heap[gd]?=some (.cells #[.int .u32 (yD b 16),.int .u16 (g16 b (hd.toNat+4))] 65 (0,0))) (ds:=[]) #[false,false,false,false,false,false,false,false,false] (by kernel_rfl) rfl rfl ⟨HXs.out,HXd.out⟩ (fun hHeld=> ?_);refine with_tabW yw.YG.tab yw.YG.bits (fun HT_ HW_=> ?_);have hb_:=below_drew1 (Below.refl w12.heap.size w12);replace HB:=mB HB hb_;replace jQ:=mX jQ hb_;replace jW:=mX jW hb_;replace bZ:=mX bZ hb_;replace HXs:=mX HXs hb_;replace HXd:=mX HXd hb_;clear hb_;generalize w12.drew=w13 at HB jQ jW bZ HXs HXd hHeld|-
           refine pz 2 99 HT_ ?_;refine pz 3 100 HT_ ?_;refine tv 0 97 (.agg #[.int .u32 (yD b 12),.int .u16 (g16 b (hd.toNat+4))]) HT_ HW_ hHeld ?_ ?_
           ·intro w' s0
            obtain ⟨s0,s1⟩:=s0;exact rw_load (p:= .tmp 9) (ty:=65) (by rfl) (by rfl) s0 hu65 (by rfl) HI65.out
           refine nz 97 ?_;refine tv 1 98 (.agg #[.int .u32 (yD b 16),.int .u16 (g16 b (hd.toNat+4))]) HT_ HW_ hHeld ?_ ?_
           ·intro w' s0
            obtain ⟨s0,s1⟩:=s0;exact rw_load (p:= .tmp 10) (ty:=65) (by rfl) (by rfl) s1 hu65 (by rfl) HI65.out
           refine nz 98 ?_;refine oz 4 (none) HT_ (fun K hK=> ?_);refine cu (by rfl) (by rfl) rfl rfl rfl jQ.out HI65.out rfl (by simp [Value.oneCell']) ?_;intro w14 hs_ off_;replace jW:=oN off_ jW (bC iQ);replace bZ:=oN off_ bZ (bC nY);replace HXs:=oN off_ HXs (bC mP);replace HXd:=oN off_ HXd (bC mW);replace HB:=oB off_ HB I9;clear off_;replace jQ:=Aside0.mk hs_;clear hs_;refine hK.out _ _ ⟨HXs.out,HXd.out⟩ (fun hHeld=> ?_);clear hK K;refine oz 5 (none) HT_ (fun K hK=> ?_);refine cu (by rfl) (by rfl) rfl rfl rfl jW.out HI65.out rfl (by simp [Value.oneCell']) ?_;intro w15 hs_ off_;replace jQ:=oN off_ jQ iQ;replace bZ:=oN off_ bZ (bC nZ);replace HXs:=oN off_ HXs (bC mQ);replace HXd:=oN off_ HXd (bC mY)
           replace HB:=oB off_ HB Ja;clear off_;replace jW:=Aside0.mk hs_;clear hs_;refine hK.out _ _ ⟨HXs.out,HXd.out⟩ (fun hHeld=> ?_);clear hK K;refine pz 6 4 HT_ ?_;refine pz 7 5 HT_ ?_;refine pz 8 6 HT_ ?_;refine dz HT_ ?_;clear HT_ HW_ hHeld
           (try dsimp only)
           go_wp2
           (try simp only [Exit.inBlock,Exit.then])
           refine bodyPost_ret (kU rfl _ _ _ _ _ _ _ _ (0,0) (0,0) _ _ rfl jQ.out hu65 rfl HI65.out rfl jW.out hu65 rfl HI65.out) rfl ?_;exact ⟨by rw [DJ (Ab8 Qb.out (E0.out ▸ Kc2.out) (by have h1:=Kc3.out;have h2:=EH.out;omega) (by have h1:=Kc4.out;have h2:=EH.out;have h3:=E8.out;omega) (E9.out ▸ Kp1.out) (by rw [<- EH.out,<- ET.out,<- EC.out,Ks1.out];unfold Cj;rw [iM Ks8.out,Ks0.out];rfl)),<- EH.out,<- E9.out];unfold wU;rw [ah (E9.out ▸ Kp1.out)];rfl,HB.out⟩
          ·have Ks1:=Aside0.mk s1
           have u0:(y1==0)=false:=iM s1;have u1:(y1 !=0)=true:=by rw [bne,u0];rfl
           clear s1
           (try dsimp only)
           go_upto_region 16 with (fail)
           refine start_ (n:=7) (S:=fun w'=>w'.heap[gn]?=some (.cells #[.int .u32 0,.int .u16 0] 65 (0,0))) (ds:=[]) #[false,false,false,false,false,false,false] (by kernel_rfl) rfl rfl bZ.out (fun hHeld=> ?_);refine with_tabW yw.R16.tab yw.R16.bits (fun HT_ HW_=> ?_);have hb_:=below_drew1 (Below.refl w9.heap.size w9);replace HB:=mB HB hb_;replace jQ:=mX jQ hb_;replace jW:=mX jW hb_;replace bZ:=mX bZ hb_;replace HXs:=mX HXs hb_;replace HXd:=mX HXd hb_;clear hb_;generalize w9.drew=w10 at HB jQ jW bZ HXs HXd hHeld|-
           refine tv 0 87 (.agg #[.int .u32 0,.int .u16 0]) HT_ HW_ hHeld ?_ ?_
           ·intro w' s0
            exact rw_load (p:= .tmp 7) (ty:=65) (by rfl) (by rfl) s0 hu65 (by rfl) HI65.out
           refine nz 87 ?_;refine tv 1 88 (.agg #[.int .u32 0,.int .u16 0]) HT_ HW_ hHeld ?_ ?_
           ·intro w' s0
            exact rw_load (p:= .tmp 7) (ty:=65) (by rfl) (by rfl) s0 hu65 (by rfl) HI65.out
           refine nz 88 ?_;refine oz 2 (none) HT_ (fun K hK=> ?_);refine cu (by rfl) (by rfl) rfl rfl rfl jQ.out HI65.out rfl (by simp [Value.oneCell']) ?_;intro w11 hs_ off_;replace jW:=oN off_ jW (bC iQ);replace bZ:=oN off_ bZ (bC nY);replace HXs:=oN off_ HXs (bC mP);replace HXd:=oN off_ HXd (bC mW);replace HB:=oB off_ HB I9;clear off_;replace jQ:=Aside0.mk hs_;clear hs_;refine hK.out _ _ bZ.out (fun hHeld=> ?_);clear hK K;refine oz 3 (none) HT_ (fun K hK=> ?_);refine cu (by rfl) (by rfl) rfl rfl rfl jW.out HI65.out rfl (by simp [Value.oneCell']) ?_;intro w12 hs_ off_;replace jQ:=oN off_ jQ iQ;replace bZ:=oN off_ bZ (bC nZ);replace HXs:=oN off_ HXs (bC mQ);replace HXd:=oN off_ HXd (bC mY);replace HB:=oB off_ HB Ja
           clear off_;replace jW:=Aside0.mk hs_;clear hs_;refine hK.out _ _ bZ.out (fun hHeld=> ?_);clear hK K;refine pz 4 4 HT_ ?_;refine pz 5 5 HT_ ?_;refine pz 6 6 HT_ ?_;refine dz HT_ ?_;clear HT_ HW_ hHeld
           (try dsimp only)
           go_wp2
           (try simp only [Exit.inBlock,Exit.then])
           refine bodyPost_ret (kU rfl _ _ _ _ _ _ _ _ (0,0) (0,0) _ _ rfl jQ.out hu65 rfl HI65.out rfl jW.out hu65 rfl HI65.out) rfl ?_;exact ⟨by rw [wo (Qa Qb.out (E9.out ▸ MH.out) (E9.out ▸ Kp6.out) (by rw [<- EH.out,<- ET.out,<- EC.out];unfold Cj;rw [iM Ks1.out,Bool.and_false]))];rfl,HB.out⟩
         ·have Ks0:=Aside0.mk s0
          have t0:(y0==0)=false:=iM s0;have t0n:(y0 !=0)=true:=by rw [bne,t0];rfl
          clear s0
          (try dsimp only)
          go_upto_region 16 with (fail)
          refine start_ (n:=7) (S:=fun w'=>w'.heap[gn]?=some (.cells #[.int .u32 0,.int .u16 0] 65 (0,0))) (ds:=[]) #[false,false,false,false,false,false,false] (by kernel_rfl) rfl rfl bZ.out (fun hHeld=> ?_);refine with_tabW yw.R16.tab yw.R16.bits (fun HT_ HW_=> ?_);have hb_:=below_drew1 (Below.refl w9.heap.size w9);replace HB:=mB HB hb_;replace jQ:=mX jQ hb_;replace jW:=mX jW hb_;replace bZ:=mX bZ hb_;replace HXs:=mX HXs hb_;replace HXd:=mX HXd hb_;clear hb_;generalize w9.drew=w10 at HB jQ jW bZ HXs HXd hHeld|-
          refine tv 0 87 (.agg #[.int .u32 0,.int .u16 0]) HT_ HW_ hHeld ?_ ?_
          ·intro w' s0
           exact rw_load (p:= .tmp 7) (ty:=65) (by rfl) (by rfl) s0 hu65 (by rfl) HI65.out
          refine nz 87 ?_;refine tv 1 88 (.agg #[.int .u32 0,.int .u16 0]) HT_ HW_ hHeld ?_ ?_
          ·intro w' s0
           exact rw_load (p:= .tmp 7) (ty:=65) (by rfl) (by rfl) s0 hu65 (by rfl) HI65.out
          refine nz 88 ?_;refine oz 2 (none) HT_ (fun K hK=> ?_);refine cu (by rfl) (by rfl) rfl rfl rfl jQ.out HI65.out rfl (by simp [Value.oneCell']) ?_;intro w11 hs_ off_;replace jW:=oN off_ jW (bC iQ);replace bZ:=oN off_ bZ (bC nY);replace HXs:=oN off_ HXs (bC mP);replace HXd:=oN off_ HXd (bC mW);replace HB:=oB off_ HB I9;clear off_;replace jQ:=Aside0.mk hs_;clear hs_;refine hK.out _ _ bZ.out (fun hHeld=> ?_);clear hK K;refine oz 3 (none) HT_ (fun K hK=> ?_);refine cu (by rfl) (by rfl) rfl rfl rfl jW.out HI65.out rfl (by simp [Value.oneCell']) ?_;intro w12 hs_ off_;replace jQ:=oN off_ jQ iQ;replace bZ:=oN off_ bZ (bC nZ);replace HXs:=oN off_ HXs (bC mQ);replace HXd:=oN off_ HXd (bC mY);replace HB:=oB off_ HB Ja
          clear off_;replace jW:=Aside0.mk hs_;clear hs_;refine hK.out _ _ bZ.out (fun hHeld=> ?_);clear hK K;refine pz 4 4 HT_ ?_;refine pz 5 5 HT_ ?_;refine pz 6 6 HT_ ?_;refine dz HT_ ?_;clear HT_ HW_ hHeld
          (try dsimp only)
          go_wp2
          (try simp only [Exit.inBlock,Exit.then])
          refine bodyPost_ret (kU rfl _ _ _ _ _ _ _ _ (0,0) (0,0) _ _ rfl jQ.out hu65 rfl HI65.out rfl jW.out hu65 rfl HI65.out) rfl ?_;exact ⟨by rw [wo (Qa Qb.out (E9.out ▸ MH.out) (E9.out ▸ Kp6.out) (by rw [<- EH.out,<- ET.out,<- EC.out];unfold Cj;rw [iM Ks8.out,iM Ks0.out];rfl))];rfl,HB.out⟩
       ·have Kp1:=Aside0.mk p1
        have e1:(x9==1)=false:=iM p1;clear p1;have e0:(x9==17)=false:=iM MH.out;have e6:(x9==6)=false:=iM Kp6.out
        (try dsimp only)
        go_upto_region 10 with (fail)
        refine start_ (n:=7) (S:=fun w'=>w'.heap[gn]?=some (.cells #[.int .u32 0,.int .u16 0] 65 (0,0))) (ds:=[]) #[false,false,false,false,false,false,false] (by kernel_rfl) rfl rfl bZ.out (fun hHeld=> ?_);refine with_tabW yw.R10.tab yw.R10.bits (fun HT_ HW_=> ?_);have hb_:=below_drew1 (Below.refl w9.heap.size w9);replace HB:=mB HB hb_;replace jQ:=mX jQ hb_;replace jW:=mX jW hb_;replace bZ:=mX bZ hb_;replace HXs:=mX HXs hb_;replace HXd:=mX HXd hb_;clear hb_;generalize w9.drew=w10 at HB jQ jW bZ HXs HXd hHeld|-
        refine tv 0 51 (.agg #[.int .u32 0,.int .u16 0]) HT_ HW_ hHeld ?_ ?_
        ·intro w' s0
         exact rw_load (p:= .tmp 7) (ty:=65) (by rfl) (by rfl) s0 hu65 (by rfl) HI65.out
        refine nz 51 ?_;refine tv 1 52 (.agg #[.int .u32 0,.int .u16 0]) HT_ HW_ hHeld ?_ ?_
        ·intro w' s0
         exact rw_load (p:= .tmp 7) (ty:=65) (by rfl) (by rfl) s0 hu65 (by rfl) HI65.out
        refine nz 52 ?_;refine oz 2 (none) HT_ (fun K hK=> ?_);refine cu (by rfl) (by rfl) rfl rfl rfl jQ.out HI65.out rfl (by simp [Value.oneCell']) ?_;intro w11 hs_ off_;replace jW:=oN off_ jW (bC iQ);replace bZ:=oN off_ bZ (bC nY);replace HXs:=oN off_ HXs (bC mP);replace HXd:=oN off_ HXd (bC mW);replace HB:=oB off_ HB I9;clear off_;replace jQ:=Aside0.mk hs_;clear hs_;refine hK.out _ _ bZ.out (fun hHeld=> ?_);clear hK K;refine oz 3 (none) HT_ (fun K hK=> ?_);refine cu (by rfl) (by rfl) rfl rfl rfl jW.out HI65.out rfl (by simp [Value.oneCell']) ?_;intro w12 hs_ off_;replace jQ:=oN off_ jQ iQ;replace bZ:=oN off_ bZ (bC nZ);replace HXs:=oN off_ HXs (bC mQ);replace HXd:=oN off_ HXd (bC mY);replace HB:=oB off_ HB Ja;clear off_
        replace jW:=Aside0.mk hs_;clear hs_;refine hK.out _ _ bZ.out (fun hHeld=> ?_);clear hK K;refine pz 4 4 HT_ ?_;refine pz 5 5 HT_ ?_;refine pz 6 6 HT_ ?_;refine dz HT_ ?_;clear HT_ HW_ hHeld
        (try dsimp only)
        go_wp2
        (try simp only [Exit.inBlock,Exit.then])
        refine bodyPost_ret (kU rfl _ _ _ _ _ _ _ _ (0,0) (0,0) _ _ rfl jQ.out hu65 rfl HI65.out rfl jW.out hu65 rfl HI65.out) rfl ?_;exact ⟨by rw [wo (ApN Qb.out (E9.out ▸ MH.out) (E9.out ▸ Kp6.out) (E9.out ▸ Kp1.out))];rfl,HB.out⟩
  ·have Kc2:=Aside0.mk c2
   have e1:(x0 / 16==4)=false:=iM c2;have e2:(x0 / 16 !=4)=true:=bne_iff_ne.2 c2;clear c2
   (try dsimp only)
   go_upto_region 3 with (fail)
   refine start_ (n:=7) (S:=fun w'=>w'.heap[gn]?=some (.cells #[.int .u32 0,.int .u16 0] 65 (0,0))) (ds:=[]) #[false,false,false,false,false,false,false] (by kernel_rfl) rfl rfl bZ.out (fun hHeld=> ?_);refine with_tabW yw.R3.tab yw.R3.bits (fun HT_ HW_=> ?_);have hb_:=below_drew1 (Below.refl w3.heap.size w3);replace HB:=mB HB hb_;replace jQ:=mX jQ hb_;replace jW:=mX jW hb_;replace bZ:=mX bZ hb_;clear hb_;generalize w3.drew=w4 at HB jQ jW bZ hHeld|-
   refine tv 0 22 (.agg #[.int .u32 0,.int .u16 0]) HT_ HW_ hHeld ?_ ?_
   ·intro w' s0
    exact rw_load (p:= .tmp 7) (ty:=65) (by rfl) (by rfl) s0 hu65 (by rfl) HI65.out
   refine nz 22 ?_;refine tv 1 23 (.agg #[.int .u32 0,.int .u16 0]) HT_ HW_ hHeld ?_ ?_
   ·intro w' s0
    exact rw_load (p:= .tmp 7) (ty:=65) (by rfl) (by rfl) s0 hu65 (by rfl) HI65.out
   refine nz 23 ?_;refine oz 2 (none) HT_ (fun K hK=> ?_);refine cu (by rfl) (by rfl) rfl rfl rfl jQ.out HI65.out rfl (by simp [Value.oneCell']) ?_;intro w5 hs_ off_;replace jW:=oN off_ jW (bC iQ);replace bZ:=oN off_ bZ (bC nY);replace HB:=oB off_ HB I9;clear off_;replace jQ:=Aside0.mk hs_;clear hs_;refine hK.out _ _ bZ.out (fun hHeld=> ?_);clear hK K;refine oz 3 (none) HT_ (fun K hK=> ?_);refine cu (by rfl) (by rfl) rfl rfl rfl jW.out HI65.out rfl (by simp [Value.oneCell']) ?_;intro w6 hs_ off_;replace jQ:=oN off_ jQ iQ;replace bZ:=oN off_ bZ (bC nZ);replace HB:=oB off_ HB Ja;clear off_;replace jW:=Aside0.mk hs_;clear hs_;refine hK.out _ _ bZ.out (fun hHeld=> ?_);clear hK K;refine pz 4 4 HT_ ?_;refine pz 5 5 HT_ ?_;refine pz 6 6 HT_ ?_;refine dz HT_ ?_
   clear HT_ HW_ hHeld
   (try dsimp only)
   go_wp2
   (try simp only [Exit.inBlock,Exit.then])
   refine bodyPost_ret (kU rfl _ _ _ _ _ _ _ _ (0,0) (0,0) _ _ rfl jQ.out hu65 rfl HI65.out rfl jW.out hu65 rfl HI65.out) rfl ?_;exact ⟨by rw [wo (Ab7 Qb.out (.inl (E0.out ▸ Kc2.out)))];rfl,HB.out⟩
end Go.Proofs.Ytkmimamminddiaa.PB
namespace Go.Proofs.Ytkmimamminddiaa.PB
open Go.RowKit Go.Proofs.YtkmimamminddiaaW.PrintWords Go.Proofs.YtkmimamminddiaaW.PrintLast Go.Proofs.YtkmimamminddiaaW.PrintMore
open Go.Proofs.Ytkmimamminddiaa.Spec Go.Proofs.Ytkmimamminddiaa.Pure
def MI (k:Nat) (a t i fl of_ s d:Int) (o b:List Int):Option LK:=
 (um.f b).bind fun ⟨us,ud,uc,ub,e⟩=>(nT.f k s d us ud uc ub).bind fun r=>if e=0 then (if r=true then some ⟨a,t,17,i,fl,of_,s,d,o,b,.udp us ud uc ub,us,ud,0,[],0⟩ else some (LK.err 22)) else some (LK.err e)
def MJ (k:Nat) (a t i fl of_ s d:Int) (o b:List Int):Option LK:=
 (jI.f b).bind fun ⟨ts,td,tq,ta,tf,tw,tc,tu,FP,tb,e⟩=>(nS.f k s d ts td tq ta tf tw tc tu FP tb).bind fun r=>if e=0 then (if r=true then some ⟨a,t,6,i,fl,of_,s,d,o,b,.tcp ts td tq ta tf tw tc tu FP tb,ts,td,tf,[],0⟩ else some (LK.err 22)) else some (LK.err e)
def GY (k:Nat) (a t i fl of_ s d:Int) (o b:List Int):Option LK:=
 (iI.f b).bind fun ⟨mt,mc,ms,mr,mb,e⟩=>(mO.f k mt mc ms mr mb).bind fun r=>if e=0 then (if r=true then
  (rM.f mt mc ms mr mb).bind fun ec=>if ec=true then some ⟨a,t,1,i,fl,of_,s,d,o,b,.Gw mt mc ms mr mb,mr / 65536 % 65536,mr / 65536 % 65536,0,[],0⟩
  else (qO.f mt mc ms mr mb).bind fun er=>if er=true then (if (FN mb).2.2.2.2=true then some ⟨a,t,1,i,fl,of_,s,d,o,b,.Gw mt mc ms mr mb,0,0,0,[(FN mb).1,(FN mb).2.1],0⟩ else some (LK.err 21)) else some (LK.err 21)
  else some (LK.err 22)) else some (LK.err e)
def Oe.f (k:Nat) (l:List Int):Option LK:=
 (bu.f k l).bind fun ⟨a,t,pr,i,fl,of_,s,d,o,b,e⟩=>if e=0 then
  if pr=17 then MI k a t i fl of_ s d o b else if pr=6 then MJ k a t i fl of_ s d o b else if pr=1 then GY k a t i fl of_ s d o b else some (LK.err 21)
 else some (LK.err e)
theorem Ab9 {P:Program} {ops:Array Oper} {rest:List Oper} {o:Oper} {a:Act} {Q:Exit ->Act ->World ->Prop} {W:World} (hgd:o.guard=none) {N:Tmp} (hd:o.dst=some N) (x y:S65) (hrun:(execOp a.eval o).run P W= .ok (.value (.slice (some ⟨W.heap.size,0,none⟩) 2 2)) (W.alloc (.cells #[.int .u32 x.f0,.int .u16 x.f1,.int .u32 y.f0,.int .u16 y.f1] 65)))
  (h:∀ A c w1,Kd.R k65 65 w1 W.heap.size (fun _=>True) (.slice A ([x,y]:List S65).length c) [x,y] ->Below W.heap.size W w1 ->wpList P ops Q rest (a.put o.dst (.slice A ([x,y]:List S65).length c)) w1):wpList P ops Q (o::rest) a W:=
 Kd.wI k65 W.heap.size 65 hgd hd (xs:=[x,y]) (inner:=[.int .u32 x.f0,.int .u16 x.f1,.int .u32 y.f0,.int .u16 y.f1]) (ok:=fun _=>True) (xw:=fun _=>True) hrun
  (dn.c2 (show Kd.M k65 _ _ _ x [.int .u32 x.f0,.int .u16 x.f1] from DU _ _ _ x) (dn.c2 (show Kd.M k65 _ _ _ y [.int .u32 y.f0,.int .u16 y.f1] from DU _ _ _ y) (dn.none _ _))) (fun _ h=>h) trivial (Below.refl _ _) (Nat.le_refl _) (by simp) (fun v1 w1 ho hb hg _=>by
  obtain ⟨A,c,rfl,_,_⟩:=Kd.R_reads ho
  exact h A c w1 ho hb)
def rlk.R11.T:Bool×List (List Nat×List Nat):=(true,[([],[]),([0],[0]),([],[]),([2],[2]),([0,1],[]),([4,0,1],[4]),([5,1,0,1],[1,5]),([0,1,2,3,4,5,6],[]),([7,0,1,2,3,4,5,6],[7]),([8,3,6,0,1,2,3,4,5,6],[3,8])])
theorem rlk.R11.tab:rtab .any (opsOf Try.f66 11)=rlk.R11.T:=by kernel_rfl
theorem rlk.R11.bits:waitsOk rlk.R11.T.2 [0,1,0,4,3,19,51,127,255,511]=true:=by kernel_rfl
def rlk.R32.T:Bool×List (List Nat×List Nat):=(true,[([],[]),([],[]),([0,0],[0]),([1,2,0,1,2],[1]),([3,0,1,2,3],[])])
theorem rlk.R32.tab:rtab .any (opsOf Try.f66 32)=rlk.R32.T:=by kernel_rfl
theorem rlk.R32.bits:waitsOk rlk.R32.T.2 [0,0,1,7,15]=true:=by kernel_rfl
def rlk.R15.T:Bool×List (List Nat×List Nat):=(true,[([],[]),([0],[0]),([],[]),([2],[2]),([],[]),([4],[4]),([0,1],[]),([6,0,1],[6]),([7,1,0,1],[1,7]),([0,1,2,3,6,7,8],[]),([9,0,1,2,3,6,7,8],[9]),([10,3,8,0,1,2,3,6,7,8],[3,10]),([0,1,2,3,4,5,6,7,8,9,10,11],[]),([12,5,11,0,1,2,3,4,5,6,7,8,9,10,11],[5,12])])
theorem rlk.R15.tab:rtab .any (opsOf Try.f66 15)=rlk.R15.T:=by kernel_rfl
theorem rlk.R15.bits:waitsOk rlk.R15.T.2 [0,1,0,4,0,16,3,67,195,463,975,1999,4095,8191]=true:=by kernel_rfl
def rlk.R22.T:Bool×List (List Nat×List Nat):=(true,[([],[]),([0],[0]),([1],[1]),([2],[2]),([],[]),([4],[4]),([5],[5]),([6],[6]),([0,1,2,3],[]),([8,0,1,2,3],[8]),([9,3,0,1,2,3],[3,9]),([0,1,2,3,4,5,6,7,8,9,10],[]),([11,0,1,2,3,4,5,6,7,8,9,10],[11]),([12,7,10,0,1,2,3,4,5,6,7,8,9,10],[7,12])])
theorem rlk.R22.tab:rtab .any (opsOf Try.f66 22)=rlk.R22.T:=by kernel_rfl
theorem rlk.R22.bits:waitsOk rlk.R22.T.2 [0,1,3,7,0,16,48,112,15,271,783,2047,4095,8191]=true:=by kernel_rfl
theorem rlk.udp (k:Nat) (A:Option Addr) (c:Nat) (l:List Int) (a t i fl of_ s d:Int) (o b:List Int) (r:LK) (w:World) (hC:Kd.C (Kd.int .u8) w A l.length l) (hL:l.length<=c) (hP:bu.f k l=some (a,t,17,i,fl,of_,s,d,o,b,0)) (h:MI k a t i fl of_ s d o b=some r):
  Calls Try.prog 66 #[.slice A l.length c] w fun e w'=>r.Told w.heap.size w e w':=by
 have hu65:=Try.underlying65;have hu73:=Try.underlying73;have tK:=Try.underlying124;have F7:=Try.underlying83;have HB:=jy w;have HC:=Aside0.mk hC;have HL:=Aside0.mk hL;have HP:=Aside0.mk hP;have HF:=Aside0.mk h;have HI65:Aside0 ((Try.prog.info? 65).map (·.size)=some 2):=⟨by kernel_rfl⟩
 have HI73:Aside0 ((Try.prog.info? 73).map (·.size)=some 10):=⟨by kernel_rfl⟩
 have kR:Aside0 ((Try.prog.info? 124).map (·.size)=some 7):=⟨by kernel_rfl⟩
 have Ei:Aside0 ((Try.prog.info? 83).map (·.size)=some 4):=⟨by kernel_rfl⟩
 clear hC hL hP h
 go_enter Try.func66,Try.ntmps66
 go_upto_region 1 with (first|((with_reducible refine gate_dst (N:=2) rfl ?_);refine box_event ?hg_ (N:=2) ?hd_ (cs:= #[.int .u8 0,.int .u8 0,.int .u8 0,.int .u16 0,.int .u8 0,.int .u16 0,.int .u32 0,.int .u32 0,.slice none 0 0,.slice none 0 0]) (t:=73) ?hr_ ?_;(case hd_=>rfl);(case hg_=>rfl);(case hr_=>first|(go_simp;done)|(go_simp;rfl));intro gi hgg_ w1 hbox_ hbb_;have o6:=Aside0.mk (show w.heap.size<=gi by rw [hgg_];exact below_size HB.out);have aU:=Aside0.mk hbox_;have hb_:=hbb_;replace HB:=mB HB hb_;clear hb_;clear hgg_ hbox_ hbb_)|((with_reducible refine gate_dst (N:=3) rfl ?_);refine box_event ?hg_ (N:=3) ?hd_ (cs:= #[.int .u8 0,.int .u32 0,.int .u16 0,.int .u32 0,.int .u16 0,.int .u8 0,.slice none 0 0]) (t:=124) ?hr_ ?_;(case hd_=>rfl);(case hg_=>rfl);(case hr_=>first|(go_simp;done)|(go_simp;rfl));intro gq hgg_ w2 hbox_ hbb_;have GHXq:=Aside0.mk (show w.heap.size<=gq by rw [hgg_];exact below_size HB.out);have HXq:=Aside0.mk hbox_;have hb_:=hbb_;replace HB:=mB HB hb_;replace aU:=mX aU hb_;clear hb_;clear hgg_ hbox_ hbb_))
 go_wp2_with fail
 refine (bu.calls k A c l a t 17 i fl of_ s d o b 0 _ (Kd.aJ HC.out HB.out) HL.out HP.out).mono ?_;rintro ev w3 ⟨vo,vb,rfl,ho,ho2,hb⟩;have bW:=qP ho HB;obtain ⟨Ao,co,rfl,_,_⟩:=Kd.R_reads ho;clear ho;have HRb:=qP ho2 HB;obtain ⟨Ab,cb,rfl,_,_⟩:=Kd.R_reads ho2;clear ho2;have hb_:=hb;replace HB:=mB HB hb_;replace aU:=mX aU hb_;replace HXq:=mX HXq hb_;clear hb_;clear hb HP HC HL
 (try dsimp only)
 go_upto_region 2 with (((refine iy rfl rfl rfl rfl rfl HI73.out rfl (by simp [Value.oneCell']) ?_);intro jm jU dP))
 revert jm jU dP;intro w4 jU dP;have HXp:Aside0 (w4.heap[w3.heap.size]?=some (.cells #[.int .u8 a,.int .u8 t,.int .u8 17,.int .u16 i,.int .u8 fl,.int .u16 of_,.int .u32 s,.int .u32 d,.slice Ao o.length co,.slice Ab b.length cb] 73 (0,0))):=⟨jU⟩
 have GHXp:=FO HB;have cO:=blk_less aU;have hb_:=dP;replace HB:=mB HB hb_;replace aU:=mX aU hb_;replace HXq:=mX HXq hb_;replace bW:=mR bW hb_;replace HRb:=mR HRb hb_;clear hb_;clear jU dP;generalize w3.heap.size=gp at HXp GHXp cO|-
 have uM:=cz HXp.out 2 rfl;have Ap:=cz HXp.out 6 rfl;have BG:=cz HXp.out 7 rfl
 go_upto_region 5 with (((refine iy rfl rfl rfl rfl rfl kR.out rfl (by simp [Value.oneCell']) ?_);intro jm jU dP))
 clear uM Ap BG;revert jm jU dP;intro w5 jU dP;have HXf:Aside0 (w5.heap[w4.heap.size]?=some (.cells #[.int .u8 17,.int .u32 s,.int .u16 0,.int .u32 d,.int .u16 0,.int .u8 0,.slice none 0 0] 124 (0,0))):=⟨jU⟩
 have GHXf:=FO HB;have bP:=blk_less HXq;have hb_:=dP;replace HB:=mB HB hb_;replace aU:=mX aU hb_;replace HXq:=mX HXq hb_;replace bW:=mR bW hb_;replace HRb:=mR HRb hb_;replace HXp:=mX HXp hb_;clear hb_;clear jU dP;generalize w4.heap.size=gf at HXf GHXf bP|-
 have H:=HF.out;clear HF;unfold MI at H
 obtain ⟨⟨us,ud,uc,ub,e2⟩,hp,H⟩:=dI H;dsimp only at H
 obtain ⟨rt,hr,H⟩:=dI H;have HG:=Aside0.mk H;clear H;have HQ:=Aside0.mk hp;have HW:=Aside0.mk hr;clear hp hr;have uM:=cz HXp.out 2 rfl;have F8:=cz HXp.out 9 rfl
 go_wp2_with fail
 clear uM F8;refine (um.calls Ab cb b us ud uc ub e2 _ (Kd.R_reads' HRb.out).2.2 (Kd.R_reads' HRb.out).2.1 HQ.out).mono ?_;rintro ev w6 ⟨vub,rfl,hub,hb⟩;have kC:=qP hub HB;obtain ⟨Aub,cub,rfl,_,_⟩:=Kd.R_reads hub;clear hub;have hb_:=hb;replace HB:=mB HB hb_;replace aU:=mX aU hb_;replace HXq:=mX HXq hb_;replace bW:=mR bW hb_;replace HRb:=mR HRb hb_;replace HXp:=mX HXp hb_;replace HXf:=mX HXf hb_;clear hb_;clear hb
 (try dsimp only)
 go_upto_region 10 with (((refine iy rfl rfl rfl rfl rfl Ei.out rfl (by simp [Value.oneCell']) ?_);intro jm jU dP))
 revert jm jU dP;intro w7 jU dP;have fG:Aside0 (w7.heap[w6.heap.size]?=some (.cells #[.int .u16 us,.int .u16 ud,.int .u16 uc,.slice Aub ub.length cub] 83 (0,0))):=⟨jU⟩
 have Bq:=FO HB;have hb_:=dP;replace HB:=mB HB hb_;replace aU:=mX aU hb_;replace HXq:=mX HXq hb_;replace bW:=mR bW hb_;replace HRb:=mR HRb hb_;replace HXp:=mX HXp hb_;replace HXf:=mX HXf hb_;replace kC:=mR kC hb_;clear hb_;clear jU dP;generalize w6.heap.size=gu at fG Bq|-
 have Ap:=cz HXp.out 6 rfl;have BG:=cz HXp.out 7 rfl
 go_wp2_with (refine Kd.event_run rfl (rw_load rfl rfl fG.out Try.underlying83 rfl Ei.out) ?_)
 clear Ap BG;refine (nT.calls k s d us ud uc Aub cub ub rt _ (Kd.R_reads' kC.out).2.2 (Kd.R_reads' kC.out).2.1 HW.out).mono ?_;rintro ev w8 ⟨rfl,hb⟩;have hb_:=hb;replace HB:=mB HB hb_;replace aU:=mX aU hb_;replace HXq:=mX HXq hb_;replace bW:=mR bW hb_;replace HRb:=mR HRb hb_;replace HXp:=mX HXp hb_;replace HXf:=mX HXf hb_;replace kC:=mR kC hb_;replace fG:=mX fG hb_;clear hb_;clear hb HQ HW
 (try dsimp only)
 go_upto_region 11 with (fail)
 refine start_ (n:=10) (S:=fun w'=>w'.cell? ⟨gu,0,none⟩=some (.int .u16 us) /\ w'.cell? ⟨gu,1,none⟩=some (.int .u16 ud)) (ds:=[]) #[false,false,false,false,false,false,false,false,false,false] (by kernel_rfl) rfl rfl ⟨((blk_cell fG.out 0).trans rfl),((blk_cell fG.out 1).trans rfl)⟩ (fun hHeld=> ?_);refine with_tabW rlk.R11.tab rlk.R11.bits (fun HT_ HW_=> ?_);have hb_:=below_drew1 (Below.refl w8.heap.size w8);replace HB:=mB HB hb_;replace aU:=mX aU hb_;replace HXq:=mX HXq hb_;replace bW:=mR bW hb_;replace HRb:=mR HRb hb_;replace HXp:=mX HXp hb_;replace HXf:=mX HXf hb_;replace kC:=mR kC hb_;replace fG:=mX fG hb_;clear hb_;generalize w8.drew=w9 at HB aU HXq bW HRb HXp HXf kC fG hHeld|-
 refine pz 0 58 HT_ ?_;refine pz 2 60 HT_ ?_;refine tz 1 59 HT_ HW_ hHeld ?_;refine pz 4 62 HT_ ?_;refine pz 5 63 HT_ ?_;refine tz 3 61 HT_ HW_ hHeld ?_;refine oz 6 (none) HT_ (fun K hK=> ?_);refine kX (i:=2) (v:= .int .u16 us) (cs':= #[.int .u8 17,.int .u32 s,.int .u16 us,.int .u32 d,.int .u16 0,.int .u8 0,.slice none 0 0]) (by rfl) (by rfl) HXf.out rfl (by (have m_:=(blk_cell HXf.out 2).trans (rfl:_=some (.int .u16 0:Value)));(have mf_:=blk_frozen HXf.out 2);first|(go_simp;done)|(go_simp;rfl)) ?_;intro w10 hs_ off_;replace aU:=oX off_ aU HXf (by decide);replace HXq:=oN off_ HXq bP;replace bW:=oR off_ bW HXf (by decide);replace HRb:=oR off_ HRb HXf (by decide);replace HXp:=oX off_ HXp HXf (by decide);replace kC:=oR off_ kC HXf (by decide);replace fG:=oX off_ fG HXf (by decide)
 replace HB:=oB off_ HB GHXf;clear off_;replace HXf:=Aside0.mk hs_;clear hs_;refine hK.out _ _ ⟨((blk_cell fG.out 0).trans rfl),((blk_cell fG.out 1).trans rfl)⟩ (fun hHeld=> ?_);clear hK K;refine pz 7 64 HT_ ?_;refine pz 8 65 HT_ ?_;refine oz 9 (none) HT_ (fun K hK=> ?_);refine kX (i:=4) (v:= .int .u16 ud) (cs':= #[.int .u8 17,.int .u32 s,.int .u16 us,.int .u32 d,.int .u16 ud,.int .u8 0,.slice none 0 0]) (by rfl) (by rfl) HXf.out rfl (by (have m_:=(blk_cell HXf.out 4).trans (rfl:_=some (.int .u16 0:Value)));(have mf_:=blk_frozen HXf.out 4);first|(go_simp;done)|(go_simp;rfl)) ?_;intro w11 hs_ off_;replace aU:=oX off_ aU HXf (by decide);replace HXq:=oN off_ HXq bP;replace bW:=oR off_ bW HXf (by decide);replace HRb:=oR off_ HRb HXf (by decide);replace HXp:=oX off_ HXp HXf (by decide)
 replace kC:=oR off_ kC HXf (by decide);replace fG:=oX off_ fG HXf (by decide);replace HB:=oB off_ HB GHXf;clear off_;replace HXf:=Aside0.mk hs_;clear hs_;refine hK.out _ _ ⟨((blk_cell fG.out 0).trans rfl),((blk_cell fG.out 1).trans rfl)⟩ (fun hHeld=> ?_);clear hK K;refine dz HT_ ?_;clear HT_ HW_ hHeld;have H:=HG.out;clear HG
 by_cases ce:e2=0
 ·have KR:(e2==0)=true:=jf ce
  have UD:(e2 !=0)=false:=by rw [bne,KR];rfl
  rw [ah ce] at H
  clear ce
  cases rt with
  |false=>
   rw [aj (by decide)] at H
   obtain rfl:=eF H
   (try dsimp only)
   go_wp2_with (first|((refine rw_putrow rfl rfl rfl rfl rfl aU.out HI73.out rfl (by simp [Value.oneCell']) ?_);intro w12 hs_ off_;replace HXq:=oX off_ HXq aU (by decide);replace bW:=oR off_ bW aU (by decide);replace HRb:=oR off_ HRb aU (by decide);replace HXp:=oN off_ HXp (bC cO);replace HXf:=oX off_ HXf aU (by decide);replace kC:=oR off_ kC aU (by decide);replace fG:=oX off_ fG aU (by decide);replace HB:=oB off_ HB o6;clear off_;replace aU:=Aside0.mk hs_;clear hs_)|((refine rw_putrow rfl rfl rfl rfl rfl HXq.out kR.out rfl (by simp [Value.oneCell']) ?_);intro w13 hs_ off_;replace aU:=oX off_ aU HXq (by decide);replace bW:=oR off_ bW HXq (by decide);replace HRb:=oR off_ HRb HXq (by decide);replace HXp:=oX off_ HXp HXq (by decide);replace HXf:=oN off_ HXf (bC bP);replace kC:=oR off_ kC HXq (by decide);replace fG:=oX off_ fG HXq (by decide);replace HB:=oB off_ HB GHXq;clear off_;replace HXq:=Aside0.mk hs_;clear hs_))
   (try simp only [Exit.inBlock,Exit.then])
   refine bodyPost_ret (ku rfl _ _ _ _ _ _ _ _ (0,0) (0,0) _ _ rfl aU.out hu73 rfl HI73.out rfl HXq.out tK rfl kR.out) rfl ?_;exact ⟨_,_,_,rfl,Kd.bV _ _ _ _ _,Kd.bV _ _ _ _ _,Kd.bV _ _ _ _ _,HB.out⟩
  |true=>
   rw [ah rfl] at H
   obtain rfl:=eF H
   (try dsimp only)
   go_upto_region 32 with (fail)
   refine start_ (n:=5) (S:=fun w'=>w'.heap[gp]?=some (.cells #[.int .u8 a,.int .u8 t,.int .u8 17,.int .u16 i,.int .u8 fl,.int .u16 of_,.int .u32 s,.int .u32 d,.slice Ao o.length co,.slice Ab b.length cb] 73 (0,0)) /\ w'.heap[gf]?=some (.cells #[.int .u8 17,.int .u32 s,.int .u16 us,.int .u32 d,.int .u16 ud,.int .u8 0,.slice none 0 0] 124 (0,0))) (ds:=[]) #[false,false,false,false,false] (by kernel_rfl) rfl rfl ⟨HXp.out,HXf.out⟩ (fun hHeld=> ?_);refine with_tabW rlk.R32.tab rlk.R32.bits (fun HT_ HW_=> ?_);have hb_:=below_drew1 (Below.refl w11.heap.size w11);replace HB:=mB HB hb_;replace aU:=mX aU hb_;replace HXq:=mX HXq hb_;replace bW:=mR bW hb_;replace HRb:=mR HRb hb_;replace HXp:=mX HXp hb_;replace HXf:=mX HXf hb_;replace kC:=mR kC hb_;replace fG:=mX fG hb_;clear hb_
   generalize w11.drew=w12 at HB aU HXq bW HRb HXp HXf kC fG hHeld|-
   refine tv 0 154 (.agg #[.int .u8 a,.int .u8 t,.int .u8 17,.int .u16 i,.int .u8 fl,.int .u16 of_,.int .u32 s,.int .u32 d,.slice Ao o.length co,.slice Ab b.length cb]) HT_ HW_ hHeld ?_ ?_
   ·intro w' s0
    obtain ⟨s0,s1⟩:=s0;exact rw_load (p:= .tmp 5) (ty:=73) (by rfl) (by rfl) s0 hu73 (by rfl) HI73.out
   refine nz 154 ?_;refine tv 1 155 (.agg #[.int .u8 17,.int .u32 s,.int .u16 us,.int .u32 d,.int .u16 ud,.int .u8 0,.slice none 0 0]) HT_ HW_ hHeld ?_ ?_
   ·intro w' s0
    obtain ⟨s0,s1⟩:=s0;exact rw_load (p:= .tmp 7) (ty:=124) (by rfl) (by rfl) s1 tK (by rfl) kR.out
   refine nz 155 ?_;refine oz 2 (none) HT_ (fun K hK=> ?_);refine cu (by rfl) (by rfl) rfl rfl rfl aU.out HI73.out rfl (by simp [Value.oneCell']) ?_;intro w13 hs_ off_;replace HXq:=oX off_ HXq aU (by decide);replace bW:=oR off_ bW aU (by decide);replace HRb:=oR off_ HRb aU (by decide);replace HXp:=oN off_ HXp (bC cO);replace HXf:=oX off_ HXf aU (by decide);replace kC:=oR off_ kC aU (by decide);replace fG:=oX off_ fG aU (by decide);replace HB:=oB off_ HB o6;clear off_;replace aU:=Aside0.mk hs_;clear hs_;refine hK.out _ _ ⟨HXp.out,HXf.out⟩ (fun hHeld=> ?_);clear hK K;refine oz 3 (none) HT_ (fun K hK=> ?_);refine cu (by rfl) (by rfl) rfl rfl rfl HXq.out kR.out rfl (by simp [Value.oneCell']) ?_;intro w14 hs_ off_;replace aU:=oX off_ aU HXq (by decide);replace bW:=oR off_ bW HXq (by decide)
   replace HRb:=oR off_ HRb HXq (by decide);replace HXp:=oX off_ HXp HXq (by decide);replace HXf:=oN off_ HXf (bC bP);replace kC:=oR off_ kC HXq (by decide);replace fG:=oX off_ fG HXq (by decide);replace HB:=oB off_ HB GHXq;clear off_;replace HXq:=Aside0.mk hs_;clear hs_;refine hK.out _ _ ⟨HXp.out,HXf.out⟩ (fun hHeld=> ?_);clear hK K;refine pz 4 4 HT_ ?_;refine dz HT_ ?_;clear HT_ HW_ hHeld
   (try dsimp only)
   go_wp2
   (try simp only [Exit.inBlock,Exit.then])
   refine bodyPost_ret (ku rfl _ _ _ _ _ _ _ _ (0,0) (0,0) _ _ rfl aU.out hu73 rfl HI73.out rfl HXq.out tK rfl kR.out) rfl ?_;exact ⟨_,_,_,rfl,bW.out,HRb.out,Kd.bV _ _ _ _ _,HB.out⟩
 ·have KR:(e2==0)=false:=iM ce
  have UD:(e2 !=0)=true:=bne_iff_ne.2 ce;rw [aj ce] at H
  clear ce;obtain rfl:=eF H
  (try dsimp only)
  go_wp2_with (first|((refine rw_putrow rfl rfl rfl rfl rfl aU.out HI73.out rfl (by simp [Value.oneCell']) ?_);intro w12 hs_ off_;replace HXq:=oX off_ HXq aU (by decide);replace bW:=oR off_ bW aU (by decide);replace HRb:=oR off_ HRb aU (by decide);replace HXp:=oN off_ HXp (bC cO);replace HXf:=oX off_ HXf aU (by decide);replace kC:=oR off_ kC aU (by decide);replace fG:=oX off_ fG aU (by decide);replace HB:=oB off_ HB o6;clear off_;replace aU:=Aside0.mk hs_;clear hs_)|((refine rw_putrow rfl rfl rfl rfl rfl HXq.out kR.out rfl (by simp [Value.oneCell']) ?_);intro w13 hs_ off_;replace aU:=oX off_ aU HXq (by decide);replace bW:=oR off_ bW HXq (by decide);replace HRb:=oR off_ HRb HXq (by decide);replace HXp:=oX off_ HXp HXq (by decide);replace HXf:=oN off_ HXf (bC bP);replace kC:=oR off_ kC HXq (by decide);replace fG:=oX off_ fG HXq (by decide);replace HB:=oB off_ HB GHXq;clear off_;replace HXq:=Aside0.mk hs_;clear hs_))
  (try simp only [Exit.inBlock,Exit.then])
  refine bodyPost_ret (ku rfl _ _ _ _ _ _ _ _ (0,0) (0,0) _ _ rfl aU.out hu73 rfl HI73.out rfl HXq.out tK rfl kR.out) rfl ?_;exact ⟨_,_,_,rfl,Kd.bV _ _ _ _ _,Kd.bV _ _ _ _ _,Kd.bV _ _ _ _ _,HB.out⟩
theorem rlk.tcp (k:Nat) (A:Option Addr) (c:Nat) (l:List Int) (a t i fl of_ s d:Int) (o b:List Int) (r:LK) (w:World) (hC:Kd.C (Kd.int .u8) w A l.length l) (hL:l.length<=c) (hP:bu.f k l=some (a,t,6,i,fl,of_,s,d,o,b,0)) (h:MJ k a t i fl of_ s d o b=some r):
  Calls Try.prog 66 #[.slice A l.length c] w fun e w'=>r.Told w.heap.size w e w':=by
 have hu65:=Try.underlying65;have hu73:=Try.underlying73;have tK:=Try.underlying124;have Ag:=Try.underlying137;have HB:=jy w;have HC:=Aside0.mk hC;have HL:=Aside0.mk hL;have HP:=Aside0.mk hP;have HF:=Aside0.mk h;have HI65:Aside0 ((Try.prog.info? 65).map (·.size)=some 2):=⟨by kernel_rfl⟩
 have HI73:Aside0 ((Try.prog.info? 73).map (·.size)=some 10):=⟨by kernel_rfl⟩
 have kR:Aside0 ((Try.prog.info? 124).map (·.size)=some 7):=⟨by kernel_rfl⟩
 have qV:Aside0 ((Try.prog.info? 137).map (·.size)=some 10):=⟨by kernel_rfl⟩
 clear hC hL hP h
 go_enter Try.func66,Try.ntmps66
 go_upto_region 1 with (first|((with_reducible refine gate_dst (N:=2) rfl ?_);refine box_event ?hg_ (N:=2) ?hd_ (cs:= #[.int .u8 0,.int .u8 0,.int .u8 0,.int .u16 0,.int .u8 0,.int .u16 0,.int .u32 0,.int .u32 0,.slice none 0 0,.slice none 0 0]) (t:=73) ?hr_ ?_;(case hd_=>rfl);(case hg_=>rfl);(case hr_=>first|(go_simp;done)|(go_simp;rfl));intro gi hgg_ w1 hbox_ hbb_;have o6:=Aside0.mk (show w.heap.size<=gi by rw [hgg_];exact below_size HB.out);have aU:=Aside0.mk hbox_;have hb_:=hbb_;replace HB:=mB HB hb_;clear hb_;clear hgg_ hbox_ hbb_)|((with_reducible refine gate_dst (N:=3) rfl ?_);refine box_event ?hg_ (N:=3) ?hd_ (cs:= #[.int .u8 0,.int .u32 0,.int .u16 0,.int .u32 0,.int .u16 0,.int .u8 0,.slice none 0 0]) (t:=124) ?hr_ ?_;(case hd_=>rfl);(case hg_=>rfl);(case hr_=>first|(go_simp;done)|(go_simp;rfl));intro gq hgg_ w2 hbox_ hbb_;have GHXq:=Aside0.mk (show w.heap.size<=gq by rw [hgg_];exact below_size HB.out);have HXq:=Aside0.mk hbox_;have hb_:=hbb_;replace HB:=mB HB hb_;replace aU:=mX aU hb_;clear hb_;clear hgg_ hbox_ hbb_))
 go_wp2_with fail
 refine (bu.calls k A c l a t 6 i fl of_ s d o b 0 _ (Kd.aJ HC.out HB.out) HL.out HP.out).mono ?_;rintro ev w3 ⟨vo,vb,rfl,ho,ho2,hb⟩;have bW:=qP ho HB;obtain ⟨Ao,co,rfl,_,_⟩:=Kd.R_reads ho;clear ho;have HRb:=qP ho2 HB;obtain ⟨Ab,cb,rfl,_,_⟩:=Kd.R_reads ho2;clear ho2;have hb_:=hb;replace HB:=mB HB hb_;replace aU:=mX aU hb_;replace HXq:=mX HXq hb_;clear hb_;clear hb HP HC HL
 (try dsimp only)
 go_upto_region 2 with (((refine iy rfl rfl rfl rfl rfl HI73.out rfl (by simp [Value.oneCell']) ?_);intro jm jU dP))
 revert jm jU dP;intro w4 jU dP;have HXp:Aside0 (w4.heap[w3.heap.size]?=some (.cells #[.int .u8 a,.int .u8 t,.int .u8 6,.int .u16 i,.int .u8 fl,.int .u16 of_,.int .u32 s,.int .u32 d,.slice Ao o.length co,.slice Ab b.length cb] 73 (0,0))):=⟨jU⟩
 have GHXp:=FO HB;have cO:=blk_less aU;have hb_:=dP;replace HB:=mB HB hb_;replace aU:=mX aU hb_;replace HXq:=mX HXq hb_;replace bW:=mR bW hb_;replace HRb:=mR HRb hb_;clear hb_;clear jU dP;generalize w3.heap.size=gp at HXp GHXp cO|-
 have uM:=cz HXp.out 2 rfl;have Ap:=cz HXp.out 6 rfl;have BG:=cz HXp.out 7 rfl
 go_upto_region 5 with (((refine iy rfl rfl rfl rfl rfl kR.out rfl (by simp [Value.oneCell']) ?_);intro jm jU dP))
 clear uM Ap BG;revert jm jU dP;intro w5 jU dP;have HXf:Aside0 (w5.heap[w4.heap.size]?=some (.cells #[.int .u8 6,.int .u32 s,.int .u16 0,.int .u32 d,.int .u16 0,.int .u8 0,.slice none 0 0] 124 (0,0))):=⟨jU⟩
 have GHXf:=FO HB;have bP:=blk_less HXq;have hb_:=dP;replace HB:=mB HB hb_;replace aU:=mX aU hb_;replace HXq:=mX HXq hb_;replace bW:=mR bW hb_;replace HRb:=mR HRb hb_;replace HXp:=mX HXp hb_;clear hb_;clear jU dP;generalize w4.heap.size=gf at HXf GHXf bP|-
 have H:=HF.out;clear HF;unfold MJ at H
 obtain ⟨⟨ts,td,tq,ta,tf,tw,tc,tu,FP,tb,e2⟩,hp,H⟩:=dI H;dsimp only at H
 obtain ⟨rt,hr,H⟩:=dI H;have HG:=Aside0.mk H;clear H;have HQ:=Aside0.mk hp;have HW:=Aside0.mk hr;clear hp hr;have uM:=cz HXp.out 2 rfl;have F8:=cz HXp.out 9 rfl
 go_wp2_with fail
 clear uM F8;refine (jI.calls Ab cb b ts td tq ta tf tw tc tu FP tb e2 _ (Kd.R_reads' HRb.out).2.2 (Kd.R_reads' HRb.out).2.1 HQ.out).mono ?_;rintro ev w6 ⟨Aur,vtb,rfl,UE,htb,hb⟩;have gY:=qP UE HB;obtain ⟨XN,XO,rfl,_,_⟩:=Kd.R_reads UE;clear UE;have jV:=qP htb HB;obtain ⟨Atb,ctb,rfl,_,_⟩:=Kd.R_reads htb;clear htb;have hb_:=hb;replace HB:=mB HB hb_;replace aU:=mX aU hb_;replace HXq:=mX HXq hb_;replace bW:=mR bW hb_;replace HRb:=mR HRb hb_;replace HXp:=mX HXp hb_;replace HXf:=mX HXf hb_;clear hb_;clear hb
 (try dsimp only)
 go_upto_region 14 with (((refine iy rfl rfl rfl rfl rfl qV.out rfl (by simp [Value.oneCell']) ?_);intro jm jU dP))
 revert jm jU dP;intro w7 jU dP;have fG:Aside0 (w7.heap[w6.heap.size]?=some (.cells #[.int .u16 ts,.int .u16 td,.int .u32 tq,.int .u32 ta,.int .u8 tf,.int .u16 tw,.int .u16 tc,.int .u16 tu,.slice XN FP.length XO,.slice Atb tb.length ctb] 137 (0,0))):=⟨jU⟩
 have Bq:=FO HB;have hb_:=dP;replace HB:=mB HB hb_;replace aU:=mX aU hb_;replace HXq:=mX HXq hb_;replace bW:=mR bW hb_;replace HRb:=mR HRb hb_;replace HXp:=mX HXp hb_;replace HXf:=mX HXf hb_;replace gY:=mR gY hb_;replace jV:=mR jV hb_;clear hb_;clear jU dP;generalize w6.heap.size=gu at fG Bq|-
 have Ap:=cz HXp.out 6 rfl;have BG:=cz HXp.out 7 rfl
 go_wp2_with (refine Kd.event_run rfl (rw_load rfl rfl fG.out Try.underlying137 rfl qV.out) ?_)
 clear Ap BG;refine (nS.calls k s d ts td tq ta tf tw tc tu XN XO FP Atb ctb tb rt _ (Kd.R_reads' gY.out).2.2 (Kd.R_reads' gY.out).2.1 (Kd.R_reads' jV.out).2.2 (Kd.R_reads' jV.out).2.1 HW.out).mono ?_;rintro ev w8 ⟨rfl,hb⟩;have hb_:=hb;replace HB:=mB HB hb_;replace aU:=mX aU hb_;replace HXq:=mX HXq hb_;replace bW:=mR bW hb_;replace HRb:=mR HRb hb_;replace HXp:=mX HXp hb_;replace HXf:=mX HXf hb_;replace gY:=mR gY hb_;replace jV:=mR jV hb_;replace fG:=mX fG hb_;clear hb_;clear hb HQ HW
 (try dsimp only)
 go_upto_region 15 with (fail)
 refine start_ (n:=14) (S:=fun w'=>w'.cell? ⟨gu,0,none⟩=some (.int .u16 ts) /\ w'.cell? ⟨gu,1,none⟩=some (.int .u16 td) /\ w'.cell? ⟨gu,4,none⟩=some (.int .u8 tf)) (ds:=[]) #[false,false,false,false,false,false,false,false,false,false,false,false,false,false] (by kernel_rfl) rfl rfl ⟨((blk_cell fG.out 0).trans rfl),((blk_cell fG.out 1).trans rfl),((blk_cell fG.out 4).trans rfl)⟩ (fun hHeld=> ?_);refine with_tabW rlk.R15.tab rlk.R15.bits (fun HT_ HW_=> ?_);have hb_:=below_drew1 (Below.refl w8.heap.size w8);replace HB:=mB HB hb_;replace aU:=mX aU hb_;replace HXq:=mX HXq hb_;replace bW:=mR bW hb_;replace HRb:=mR HRb hb_;replace HXp:=mX HXp hb_;replace HXf:=mX HXf hb_;replace gY:=mR gY hb_;replace jV:=mR jV hb_;replace fG:=mX fG hb_;clear hb_
 generalize w8.drew=w9 at HB aU HXq bW HRb HXp HXf gY jV fG hHeld|-
 refine pz 0 81 HT_ ?_;refine pz 2 83 HT_ ?_;refine pz 4 85 HT_ ?_;refine tz 1 82 HT_ HW_ hHeld ?_;refine pz 6 87 HT_ ?_;refine pz 7 88 HT_ ?_;refine tz 3 84 HT_ HW_ hHeld ?_;refine tz 5 86 HT_ HW_ hHeld ?_;refine oz 8 (none) HT_ (fun K hK=> ?_);refine kX (i:=2) (v:= .int .u16 ts) (cs':= #[.int .u8 6,.int .u32 s,.int .u16 ts,.int .u32 d,.int .u16 0,.int .u8 0,.slice none 0 0]) (by rfl) (by rfl) HXf.out rfl (by (have m_:=(blk_cell HXf.out 2).trans (rfl:_=some (.int .u16 0:Value)));(have mf_:=blk_frozen HXf.out 2);first|(go_simp;done)|(go_simp;rfl)) ?_;intro w10 hs_ off_;replace aU:=oX off_ aU HXf (by decide);replace HXq:=oN off_ HXq bP;replace bW:=oR off_ bW HXf (by decide);replace HRb:=oR off_ HRb HXf (by decide);replace HXp:=oX off_ HXp HXf (by decide);replace gY:=oR off_ gY HXf (by decide)
 replace jV:=oR off_ jV HXf (by decide);replace fG:=oX off_ fG HXf (by decide);replace HB:=oB off_ HB GHXf;clear off_;replace HXf:=Aside0.mk hs_;clear hs_;refine hK.out _ _ ⟨((blk_cell fG.out 0).trans rfl),((blk_cell fG.out 1).trans rfl),((blk_cell fG.out 4).trans rfl)⟩ (fun hHeld=> ?_);clear hK K;refine pz 9 89 HT_ ?_;refine pz 10 90 HT_ ?_;refine oz 11 (none) HT_ (fun K hK=> ?_);refine kX (i:=4) (v:= .int .u16 td) (cs':= #[.int .u8 6,.int .u32 s,.int .u16 ts,.int .u32 d,.int .u16 td,.int .u8 0,.slice none 0 0]) (by rfl) (by rfl) HXf.out rfl (by (have m_:=(blk_cell HXf.out 4).trans (rfl:_=some (.int .u16 0:Value)));(have mf_:=blk_frozen HXf.out 4);first|(go_simp;done)|(go_simp;rfl)) ?_;intro w11 hs_ off_;replace aU:=oX off_ aU HXf (by decide);replace HXq:=oN off_ HXq bP
 replace bW:=oR off_ bW HXf (by decide);replace HRb:=oR off_ HRb HXf (by decide);replace HXp:=oX off_ HXp HXf (by decide);replace gY:=oR off_ gY HXf (by decide);replace jV:=oR off_ jV HXf (by decide);replace fG:=oX off_ fG HXf (by decide);replace HB:=oB off_ HB GHXf;clear off_;replace HXf:=Aside0.mk hs_;clear hs_;refine hK.out _ _ ⟨((blk_cell fG.out 0).trans rfl),((blk_cell fG.out 1).trans rfl),((blk_cell fG.out 4).trans rfl)⟩ (fun hHeld=> ?_);clear hK K;refine pz 12 91 HT_ ?_;refine oz 13 (none) HT_ (fun K hK=> ?_)
 refine kX (i:=5) (v:= .int .u8 tf) (cs':= #[.int .u8 6,.int .u32 s,.int .u16 ts,.int .u32 d,.int .u16 td,.int .u8 tf,.slice none 0 0]) (by rfl) (by rfl) HXf.out rfl (by (have m_:=(blk_cell HXf.out 5).trans (rfl:_=some (.int .u8 0:Value)));(have mf_:=blk_frozen HXf.out 5);first|(go_simp;done)|(go_simp;rfl)) ?_;intro w12 hs_ off_;replace aU:=oX off_ aU HXf (by decide);replace HXq:=oN off_ HXq bP;replace bW:=oR off_ bW HXf (by decide);replace HRb:=oR off_ HRb HXf (by decide);replace HXp:=oX off_ HXp HXf (by decide);replace gY:=oR off_ gY HXf (by decide);replace jV:=oR off_ jV HXf (by decide);replace fG:=oX off_ fG HXf (by decide);replace HB:=oB off_ HB GHXf;clear off_;replace HXf:=Aside0.mk hs_;clear hs_
 refine hK.out _ _ ⟨((blk_cell fG.out 0).trans rfl),((blk_cell fG.out 1).trans rfl),((blk_cell fG.out 4).trans rfl)⟩ (fun hHeld=> ?_);clear hK K;refine dz HT_ ?_;clear HT_ HW_ hHeld;have H:=HG.out;clear HG
 by_cases ce:e2=0
 ·have KR:(e2==0)=true:=jf ce
  have UD:(e2 !=0)=false:=by rw [bne,KR];rfl
  rw [ah ce] at H
  clear ce
  cases rt with
  |false=>
   rw [aj (by decide)] at H
   obtain rfl:=eF H
   (try dsimp only)
   go_wp2_with (first|((refine rw_putrow rfl rfl rfl rfl rfl aU.out HI73.out rfl (by simp [Value.oneCell']) ?_);intro w13 hs_ off_;replace HXq:=oX off_ HXq aU (by decide);replace bW:=oR off_ bW aU (by decide);replace HRb:=oR off_ HRb aU (by decide);replace HXp:=oN off_ HXp (bC cO);replace HXf:=oX off_ HXf aU (by decide);replace gY:=oR off_ gY aU (by decide);replace jV:=oR off_ jV aU (by decide);replace fG:=oX off_ fG aU (by decide);replace HB:=oB off_ HB o6;clear off_;replace aU:=Aside0.mk hs_;clear hs_)|((refine rw_putrow rfl rfl rfl rfl rfl HXq.out kR.out rfl (by simp [Value.oneCell']) ?_);intro w14 hs_ off_;replace aU:=oX off_ aU HXq (by decide);replace bW:=oR off_ bW HXq (by decide);replace HRb:=oR off_ HRb HXq (by decide);replace HXp:=oX off_ HXp HXq (by decide);replace HXf:=oN off_ HXf (bC bP);replace gY:=oR off_ gY HXq (by decide);replace jV:=oR off_ jV HXq (by decide);replace fG:=oX off_ fG HXq (by decide);replace HB:=oB off_ HB GHXq;clear off_;replace HXq:=Aside0.mk hs_;clear hs_))
   (try simp only [Exit.inBlock,Exit.then])
   refine bodyPost_ret (ku rfl _ _ _ _ _ _ _ _ (0,0) (0,0) _ _ rfl aU.out hu73 rfl HI73.out rfl HXq.out tK rfl kR.out) rfl ?_;exact ⟨_,_,_,rfl,Kd.bV _ _ _ _ _,Kd.bV _ _ _ _ _,Kd.bV _ _ _ _ _,HB.out⟩
  |true=>
   rw [ah rfl] at H
   obtain rfl:=eF H
   (try dsimp only)
   go_upto_region 32 with (fail)
   refine start_ (n:=5) (S:=fun w'=>w'.heap[gp]?=some (.cells #[.int .u8 a,.int .u8 t,.int .u8 6,.int .u16 i,.int .u8 fl,.int .u16 of_,.int .u32 s,.int .u32 d,.slice Ao o.length co,.slice Ab b.length cb] 73 (0,0)) /\ w'.heap[gf]?=some (.cells #[.int .u8 6,.int .u32 s,.int .u16 ts,.int .u32 d,.int .u16 td,.int .u8 tf,.slice none 0 0] 124 (0,0))) (ds:=[]) #[false,false,false,false,false] (by kernel_rfl) rfl rfl ⟨HXp.out,HXf.out⟩ (fun hHeld=> ?_);refine with_tabW rlk.R32.tab rlk.R32.bits (fun HT_ HW_=> ?_);have hb_:=below_drew1 (Below.refl w12.heap.size w12);replace HB:=mB HB hb_;replace aU:=mX aU hb_;replace HXq:=mX HXq hb_;replace bW:=mR bW hb_;replace HRb:=mR HRb hb_;replace HXp:=mX HXp hb_;replace HXf:=mX HXf hb_;replace gY:=mR gY hb_;replace jV:=mR jV hb_;replace fG:=mX fG hb_;clear hb_
   generalize w12.drew=w13 at HB aU HXq bW HRb HXp HXf gY jV fG hHeld|-
   refine tv 0 154 (.agg #[.int .u8 a,.int .u8 t,.int .u8 6,.int .u16 i,.int .u8 fl,.int .u16 of_,.int .u32 s,.int .u32 d,.slice Ao o.length co,.slice Ab b.length cb]) HT_ HW_ hHeld ?_ ?_
   ·intro w' s0
    obtain ⟨s0,s1⟩:=s0;exact rw_load (p:= .tmp 5) (ty:=73) (by rfl) (by rfl) s0 hu73 (by rfl) HI73.out
   refine nz 154 ?_;refine tv 1 155 (.agg #[.int .u8 6,.int .u32 s,.int .u16 ts,.int .u32 d,.int .u16 td,.int .u8 tf,.slice none 0 0]) HT_ HW_ hHeld ?_ ?_
   ·intro w' s0
    obtain ⟨s0,s1⟩:=s0;exact rw_load (p:= .tmp 7) (ty:=124) (by rfl) (by rfl) s1 tK (by rfl) kR.out
   refine nz 155 ?_;refine oz 2 (none) HT_ (fun K hK=> ?_);refine cu (by rfl) (by rfl) rfl rfl rfl aU.out HI73.out rfl (by simp [Value.oneCell']) ?_;intro w14 hs_ off_;replace HXq:=oX off_ HXq aU (by decide);replace bW:=oR off_ bW aU (by decide);replace HRb:=oR off_ HRb aU (by decide);replace HXp:=oN off_ HXp (bC cO);replace HXf:=oX off_ HXf aU (by decide);replace gY:=oR off_ gY aU (by decide);replace jV:=oR off_ jV aU (by decide);replace fG:=oX off_ fG aU (by decide);replace HB:=oB off_ HB o6;clear off_;replace aU:=Aside0.mk hs_;clear hs_;refine hK.out _ _ ⟨HXp.out,HXf.out⟩ (fun hHeld=> ?_);clear hK K;refine oz 3 (none) HT_ (fun K hK=> ?_);refine cu (by rfl) (by rfl) rfl rfl rfl HXq.out kR.out rfl (by simp [Value.oneCell']) ?_;intro w15 hs_ off_;replace aU:=oX off_ aU HXq (by decide)
   replace bW:=oR off_ bW HXq (by decide);replace HRb:=oR off_ HRb HXq (by decide);replace HXp:=oX off_ HXp HXq (by decide);replace HXf:=oN off_ HXf (bC bP);replace gY:=oR off_ gY HXq (by decide);replace jV:=oR off_ jV HXq (by decide);replace fG:=oX off_ fG HXq (by decide);replace HB:=oB off_ HB GHXq;clear off_;replace HXq:=Aside0.mk hs_;clear hs_;refine hK.out _ _ ⟨HXp.out,HXf.out⟩ (fun hHeld=> ?_);clear hK K;refine pz 4 4 HT_ ?_;refine dz HT_ ?_;clear HT_ HW_ hHeld
   (try dsimp only)
   go_wp2
   (try simp only [Exit.inBlock,Exit.then])
   refine bodyPost_ret (ku rfl _ _ _ _ _ _ _ _ (0,0) (0,0) _ _ rfl aU.out hu73 rfl HI73.out rfl HXq.out tK rfl kR.out) rfl ?_;exact ⟨_,_,_,rfl,bW.out,HRb.out,Kd.bV _ _ _ _ _,HB.out⟩
 ·have KR:(e2==0)=false:=iM ce
  have UD:(e2 !=0)=true:=bne_iff_ne.2 ce;rw [aj ce] at H
  clear ce;obtain rfl:=eF H
  (try dsimp only)
  go_wp2_with (first|((refine rw_putrow rfl rfl rfl rfl rfl aU.out HI73.out rfl (by simp [Value.oneCell']) ?_);intro w13 hs_ off_;replace HXq:=oX off_ HXq aU (by decide);replace bW:=oR off_ bW aU (by decide);replace HRb:=oR off_ HRb aU (by decide);replace HXp:=oN off_ HXp (bC cO);replace HXf:=oX off_ HXf aU (by decide);replace gY:=oR off_ gY aU (by decide);replace jV:=oR off_ jV aU (by decide);replace fG:=oX off_ fG aU (by decide);replace HB:=oB off_ HB o6;clear off_;replace aU:=Aside0.mk hs_;clear hs_)|((refine rw_putrow rfl rfl rfl rfl rfl HXq.out kR.out rfl (by simp [Value.oneCell']) ?_);intro w14 hs_ off_;replace aU:=oX off_ aU HXq (by decide);replace bW:=oR off_ bW HXq (by decide);replace HRb:=oR off_ HRb HXq (by decide);replace HXp:=oX off_ HXp HXq (by decide);replace HXf:=oN off_ HXf (bC bP);replace gY:=oR off_ gY HXq (by decide);replace jV:=oR off_ jV HXq (by decide);replace fG:=oX off_ fG HXq (by decide);replace HB:=oB off_ HB GHXq;clear off_;replace HXq:=Aside0.mk hs_;clear hs_))
  (try simp only [Exit.inBlock,Exit.then])
  refine bodyPost_ret (ku rfl _ _ _ _ _ _ _ _ (0,0) (0,0) _ _ rfl aU.out hu73 rfl HI73.out rfl HXq.out tK rfl kR.out) rfl ?_;exact ⟨_,_,_,rfl,Kd.bV _ _ _ _ _,Kd.bV _ _ _ _ _,Kd.bV _ _ _ _ _,HB.out⟩
theorem rlk.Gw (k:Nat) (A:Option Addr) (c:Nat) (l:List Int) (a t i fl of_ s d:Int) (o b:List Int) (r:LK) (w:World) (hC:Kd.C (Kd.int .u8) w A l.length l) (hL:l.length<=c) (hP:bu.f k l=some (a,t,1,i,fl,of_,s,d,o,b,0)) (h:GY k a t i fl of_ s d o b=some r) (hm:∀ mt mc ms mr mb e,iI.f b=some (mt,mc,ms,mr,mb,e) ->jX mb /\ mb.length<=100000):
  Calls Try.prog 66 #[.slice A l.length c] w fun e w'=>r.Told w.heap.size w e w':=by
 have hu65:=Try.underlying65;have hu73:=Try.underlying73;have tK:=Try.underlying124;have uQ:=Try.underlying101;have HB:=jy w;have HC:=Aside0.mk hC;have HL:=Aside0.mk hL;have HP:=Aside0.mk hP;have HF:=Aside0.mk h;have HM:=Aside0.mk hm;have HI65:Aside0 ((Try.prog.info? 65).map (·.size)=some 2):=⟨by kernel_rfl⟩
 have HI73:Aside0 ((Try.prog.info? 73).map (·.size)=some 10):=⟨by kernel_rfl⟩
 have kR:Aside0 ((Try.prog.info? 124).map (·.size)=some 7):=⟨by kernel_rfl⟩
 have ou:Aside0 ((Try.prog.info? 101).map (·.size)=some 5):=⟨by kernel_rfl⟩
 clear hC hL hP h hm
 go_enter Try.func66,Try.ntmps66
 go_upto_region 1 with (first|((with_reducible refine gate_dst (N:=2) rfl ?_);refine box_event ?hg_ (N:=2) ?hd_ (cs:= #[.int .u8 0,.int .u8 0,.int .u8 0,.int .u16 0,.int .u8 0,.int .u16 0,.int .u32 0,.int .u32 0,.slice none 0 0,.slice none 0 0]) (t:=73) ?hr_ ?_;(case hd_=>rfl);(case hg_=>rfl);(case hr_=>first|(go_simp;done)|(go_simp;rfl));intro gi hgg_ w1 hbox_ hbb_;have o6:=Aside0.mk (show w.heap.size<=gi by rw [hgg_];exact below_size HB.out);have aU:=Aside0.mk hbox_;have hb_:=hbb_;replace HB:=mB HB hb_;clear hb_;clear hgg_ hbox_ hbb_)|((with_reducible refine gate_dst (N:=3) rfl ?_);refine box_event ?hg_ (N:=3) ?hd_ (cs:= #[.int .u8 0,.int .u32 0,.int .u16 0,.int .u32 0,.int .u16 0,.int .u8 0,.slice none 0 0]) (t:=124) ?hr_ ?_;(case hd_=>rfl);(case hg_=>rfl);(case hr_=>first|(go_simp;done)|(go_simp;rfl));intro gq hgg_ w2 hbox_ hbb_;have GHXq:=Aside0.mk (show w.heap.size<=gq by rw [hgg_];exact below_size HB.out);have HXq:=Aside0.mk hbox_;have hb_:=hbb_;replace HB:=mB HB hb_;replace aU:=mX aU hb_;clear hb_;clear hgg_ hbox_ hbb_))
 go_wp2_with fail
 refine (bu.calls k A c l a t 1 i fl of_ s d o b 0 _ (Kd.aJ HC.out HB.out) HL.out HP.out).mono ?_;rintro ev w3 ⟨vo,vb,rfl,ho,ho2,hb⟩;have bW:=qP ho HB;obtain ⟨Ao,co,rfl,_,_⟩:=Kd.R_reads ho;clear ho;have HRb:=qP ho2 HB;obtain ⟨Ab,cb,rfl,_,_⟩:=Kd.R_reads ho2;clear ho2;have hb_:=hb;replace HB:=mB HB hb_;replace aU:=mX aU hb_;replace HXq:=mX HXq hb_;clear hb_;clear hb HP HC HL
 (try dsimp only)
 go_upto_region 2 with (((refine iy rfl rfl rfl rfl rfl HI73.out rfl (by simp [Value.oneCell']) ?_);intro jm jU dP))
 revert jm jU dP;intro w4 jU dP;have HXp:Aside0 (w4.heap[w3.heap.size]?=some (.cells #[.int .u8 a,.int .u8 t,.int .u8 1,.int .u16 i,.int .u8 fl,.int .u16 of_,.int .u32 s,.int .u32 d,.slice Ao o.length co,.slice Ab b.length cb] 73 (0,0))):=⟨jU⟩
 have GHXp:=FO HB;have cO:=blk_less aU;have hb_:=dP;replace HB:=mB HB hb_;replace aU:=mX aU hb_;replace HXq:=mX HXq hb_;replace bW:=mR bW hb_;replace HRb:=mR HRb hb_;clear hb_;clear jU dP;generalize w3.heap.size=gp at HXp GHXp cO|-
 have uM:=cz HXp.out 2 rfl;have Ap:=cz HXp.out 6 rfl;have BG:=cz HXp.out 7 rfl
 go_upto_region 5 with (((refine iy rfl rfl rfl rfl rfl kR.out rfl (by simp [Value.oneCell']) ?_);intro jm jU dP))
 clear uM Ap BG;revert jm jU dP;intro w5 jU dP;have HXf:Aside0 (w5.heap[w4.heap.size]?=some (.cells #[.int .u8 1,.int .u32 s,.int .u16 0,.int .u32 d,.int .u16 0,.int .u8 0,.slice none 0 0] 124 (0,0))):=⟨jU⟩
 have GHXf:=FO HB;have bP:=blk_less HXq;have hb_:=dP;replace HB:=mB HB hb_;replace aU:=mX aU hb_;replace HXq:=mX HXq hb_;replace bW:=mR bW hb_;replace HRb:=mR HRb hb_;replace HXp:=mX HXp hb_;clear hb_;clear jU dP;generalize w4.heap.size=gf at HXf GHXf bP|-
 have H:=HF.out;clear HF;unfold GY at H
 obtain ⟨⟨mt,mc,ms,mr,mb,e2⟩,hp,H⟩:=dI H;dsimp only at H
 obtain ⟨rt,hr,H⟩:=dI H;have HG:=Aside0.mk H;clear H;have HQ:=Aside0.mk hp;have HW:=Aside0.mk hr;clear hp hr;have uM:=cz HXp.out 2 rfl;have F8:=cz HXp.out 9 rfl
 go_wp2_with fail
 clear uM F8;refine (iI.calls Ab cb b mt mc ms mr mb e2 _ (Kd.R_reads' HRb.out).2.2 (Kd.R_reads' HRb.out).2.1 HQ.out).mono ?_;rintro ev w6 ⟨vmb,rfl,hmb,hb⟩;have dB:=qP hmb HB;obtain ⟨KP,KQ,rfl,_,_⟩:=Kd.R_reads hmb;clear hmb;have hb_:=hb;replace HB:=mB HB hb_;replace aU:=mX aU hb_;replace HXq:=mX HXq hb_;replace bW:=mR bW hb_;replace HRb:=mR HRb hb_;replace HXp:=mX HXp hb_;replace HXf:=mX HXf hb_;clear hb_;clear hb
 (try dsimp only)
 go_upto_region 18 with (((refine iy rfl rfl rfl rfl rfl ou.out rfl (by simp [Value.oneCell']) ?_);intro jm jU dP))
 revert jm jU dP;intro w7 jU dP;have fG:Aside0 (w7.heap[w6.heap.size]?=some (.cells #[.int .u8 mt,.int .u8 mc,.int .u16 ms,.int .u32 mr,.slice KP mb.length KQ] 101 (0,0))):=⟨jU⟩
 have Bq:=FO HB;have hb_:=dP;replace HB:=mB HB hb_;replace aU:=mX aU hb_;replace HXq:=mX HXq hb_;replace bW:=mR bW hb_;replace HRb:=mR HRb hb_;replace HXp:=mX HXp hb_;replace HXf:=mX HXf hb_;replace dB:=mR dB hb_;clear hb_;clear jU dP;generalize w6.heap.size=gu at fG Bq|-
 go_wp2_with (refine Kd.event_run rfl (rw_load rfl rfl fG.out Try.underlying101 rfl ou.out) ?_)
 refine (mO.calls k mt mc ms mr KP KQ mb rt _ (Kd.R_reads' dB.out).2.2 (Kd.R_reads' dB.out).2.1 HW.out).mono ?_;rintro ev w8 ⟨rfl,hb⟩;have hb_:=hb;replace HB:=mB HB hb_;replace aU:=mX aU hb_;replace HXq:=mX HXq hb_;replace bW:=mR bW hb_;replace HRb:=mR HRb hb_;replace HXp:=mX HXp hb_;replace HXf:=mX HXf hb_;replace dB:=mR dB hb_;replace fG:=mX fG hb_;clear hb_;clear hb HW;have H:=HG.out;clear HG
 by_cases ce:e2=0
 ·have KR:(e2==0)=true:=jf ce
  have UD:(e2 !=0)=false:=by rw [bne,KR];rfl
  rw [ah ce] at H
  clear ce
  cases rt with
  |false=>
   rw [aj (by decide)] at H
   obtain rfl:=eF H
   (try dsimp only)
   go_wp2_with (first|((refine rw_putrow rfl rfl rfl rfl rfl aU.out HI73.out rfl (by simp [Value.oneCell']) ?_);intro w9 hs_ off_;replace HXq:=oX off_ HXq aU (by decide);replace bW:=oR off_ bW aU (by decide);replace HRb:=oR off_ HRb aU (by decide);replace HXp:=oN off_ HXp (bC cO);replace HXf:=oX off_ HXf aU (by decide);replace dB:=oR off_ dB aU (by decide);replace fG:=oX off_ fG aU (by decide);replace HB:=oB off_ HB o6;clear off_;replace aU:=Aside0.mk hs_;clear hs_)|((refine rw_putrow rfl rfl rfl rfl rfl HXq.out kR.out rfl (by simp [Value.oneCell']) ?_);intro w10 hs_ off_;replace aU:=oX off_ aU HXq (by decide);replace bW:=oR off_ bW HXq (by decide);replace HRb:=oR off_ HRb HXq (by decide);replace HXp:=oX off_ HXp HXq (by decide);replace HXf:=oN off_ HXf (bC bP);replace dB:=oR off_ dB HXq (by decide);replace fG:=oX off_ fG HXq (by decide);replace HB:=oB off_ HB GHXq;clear off_;replace HXq:=Aside0.mk hs_;clear hs_))
   (try simp only [Exit.inBlock,Exit.then])
   refine bodyPost_ret (ku rfl _ _ _ _ _ _ _ _ (0,0) (0,0) _ _ rfl aU.out hu73 rfl HI73.out rfl HXq.out tK rfl kR.out) rfl ?_;exact ⟨_,_,_,rfl,Kd.bV _ _ _ _ _,Kd.bV _ _ _ _ _,Kd.bV _ _ _ _ _,HB.out⟩
  |true=>
   rw [ah rfl] at H
   obtain ⟨ec,hec,H⟩:=dI H;have HG:=Aside0.mk H;clear H;have HE:=Aside0.mk hec;clear hec
   (try dsimp only)
   go_wp2_with (refine Kd.event_run rfl (rw_load rfl rfl fG.out Try.underlying101 rfl ou.out) ?_)
   refine (rM.calls mt mc ms mr KP KQ mb ec _ (Kd.R_reads' dB.out).2.2 (Kd.R_reads' dB.out).2.1 HE.out).mono ?_;rintro ev w9 ⟨rfl,hb⟩;have hb_:=hb;replace HB:=mB HB hb_;replace aU:=mX aU hb_;replace HXq:=mX HXq hb_;replace bW:=mR bW hb_;replace HRb:=mR HRb hb_;replace HXp:=mX HXp hb_;replace HXf:=mX HXf hb_;replace dB:=mR dB hb_;replace fG:=mX fG hb_;clear hb_;clear hb HE;have H:=HG.out;clear HG
   cases ec with
   |false=>
    rw [aj (by decide)] at H
    obtain ⟨er,her,H⟩:=dI H;have HG:=Aside0.mk H;clear H;have HE:=Aside0.mk her;clear her
    (try dsimp only)
    go_wp2_with (refine Kd.event_run rfl (rw_load rfl rfl fG.out Try.underlying101 rfl ou.out) ?_)
    refine (qO.calls mt mc ms mr KP KQ mb er _ (Kd.R_reads' dB.out).2.2 (Kd.R_reads' dB.out).2.1 HE.out).mono ?_;rintro ev w10 ⟨rfl,hb⟩;have hb_:=hb;replace HB:=mB HB hb_;replace aU:=mX aU hb_;replace HXq:=mX HXq hb_;replace bW:=mR bW hb_;replace HRb:=mR HRb hb_;replace HXp:=mX HXp hb_;replace HXf:=mX HXf hb_;replace dB:=mR dB hb_;replace fG:=mX fG hb_;clear hb_;clear hb HE;have H:=HG.out;clear HG
    cases er with
    |false=>
     rw [aj (by decide)] at H
     obtain rfl:=eF H
     (try dsimp only)
     go_wp2_with (first|((refine rw_putrow rfl rfl rfl rfl rfl aU.out HI73.out rfl (by simp [Value.oneCell']) ?_);intro w11 hs_ off_;replace HXq:=oX off_ HXq aU (by decide);replace bW:=oR off_ bW aU (by decide);replace HRb:=oR off_ HRb aU (by decide);replace HXp:=oN off_ HXp (bC cO);replace HXf:=oX off_ HXf aU (by decide);replace dB:=oR off_ dB aU (by decide);replace fG:=oX off_ fG aU (by decide);replace HB:=oB off_ HB o6;clear off_;replace aU:=Aside0.mk hs_;clear hs_)|((refine rw_putrow rfl rfl rfl rfl rfl HXq.out kR.out rfl (by simp [Value.oneCell']) ?_);intro w12 hs_ off_;replace aU:=oX off_ aU HXq (by decide);replace bW:=oR off_ bW HXq (by decide);replace HRb:=oR off_ HRb HXq (by decide);replace HXp:=oX off_ HXp HXq (by decide);replace HXf:=oN off_ HXf (bC bP);replace dB:=oR off_ dB HXq (by decide);replace fG:=oX off_ fG HXq (by decide);replace HB:=oB off_ HB GHXq;clear off_;replace HXq:=Aside0.mk hs_;clear hs_))
     (try simp only [Exit.inBlock,Exit.then])
     refine bodyPost_ret (ku rfl _ _ _ _ _ _ _ _ (0,0) (0,0) _ _ rfl aU.out hu73 rfl HI73.out rfl HXq.out tK rfl kR.out) rfl ?_;exact ⟨_,_,_,rfl,Kd.bV _ _ _ _ _,Kd.bV _ _ _ _ _,Kd.bV _ _ _ _ _,HB.out⟩
    |true=>
     rw [ah rfl] at H
     have HG:=Aside0.mk H;clear H
     (try dsimp only)
     have AvH:=cz fG.out 4 rfl
     go_wp2_with fail
     clear AvH;refine (yw.calls KP KQ mb _ (HM.out _ _ _ _ _ _ HQ.out).1 (HM.out _ _ _ _ _ _ HQ.out).2 (Kd.R_reads' dB.out).2.2 (Kd.R_reads' dB.out).2.1).mono ?_;rintro ev w11 ⟨rfl,hb⟩;have hb_:=hb;replace HB:=mB HB hb_;replace aU:=mX aU hb_;replace HXq:=mX HXq hb_;replace bW:=mR bW hb_;replace HRb:=mR HRb hb_;replace HXp:=mX HXp hb_;replace HXf:=mX HXf hb_;replace dB:=mR dB hb_;replace fG:=mX fG hb_;clear hb_;clear hb;have H:=HG.out;clear HG;generalize FN mb=q_ at H|-
     obtain ⟨⟨qx,qp⟩,⟨qy,qr⟩,pp,hh,ok⟩:=q_;dsimp only at H|-
     go_upto_region 25 with (first|((with_reducible refine gate_dst (N:=15) rfl ?_);refine box_event ?hg_ (N:=15) ?hd_ (cs:= #[.int .u32 0,.int .u16 0]) (t:=65) ?hr_ ?_;(case hd_=>rfl);(case hg_=>rfl);(case hr_=>first|(go_simp;done)|(go_simp;rfl));intro gx hgg_ w12 hbox_ hbb_;have Akq:=Aside0.mk (show w.heap.size<=gx by rw [hgg_];exact below_size HB.out);have wu:=Aside0.mk hbox_;have hb_:=hbb_;replace HB:=mB HB hb_;replace aU:=mX aU hb_;replace HXq:=mX HXq hb_;replace bW:=mR bW hb_;replace HRb:=mR HRb hb_;replace HXp:=mX HXp hb_;replace HXf:=mX HXf hb_;replace dB:=mR dB hb_;replace fG:=mX fG hb_;clear hb_;clear hgg_ hbox_ hbb_)|((with_reducible refine gate_dst (N:=16) rfl ?_);refine box_event ?hg_ (N:=16) ?hd_ (cs:= #[.int .u32 0,.int .u16 0]) (t:=65) ?hr_ ?_;(case hd_=>rfl);(case hg_=>rfl);(case hr_=>first|(go_simp;done)|(go_simp;rfl));intro gy hgg_ w13 hbox_ hbb_;have Akr:=Aside0.mk (show w.heap.size<=gy by rw [hgg_];exact below_size HB.out);have xx:=Aside0.mk hbox_;have MK:Aside0 (gx≠gy):=⟨by rw [hgg_];exact (blk_less wu).out⟩;have hb_:=hbb_;replace HB:=mB HB hb_;replace aU:=mX aU hb_;replace HXq:=mX HXq hb_;replace bW:=mR bW hb_;replace HRb:=mR HRb hb_;replace HXp:=mX HXp hb_;replace HXf:=mX HXf hb_;replace dB:=mR dB hb_;replace fG:=mX fG hb_;replace wu:=mX wu hb_;clear hb_;clear hgg_ hbox_ hbb_)|((refine rw_putrow rfl rfl rfl rfl rfl wu.out HI65.out rfl (by simp [Value.oneCell']) ?_);intro w14 hs_ off_;replace aU:=oX off_ aU wu (by decide);replace HXq:=oX off_ HXq wu (by decide);replace bW:=oR off_ bW wu (by decide);replace HRb:=oR off_ HRb wu (by decide);replace HXp:=oX off_ HXp wu (by decide);replace HXf:=oX off_ HXf wu (by decide);replace dB:=oR off_ dB wu (by decide);replace fG:=oX off_ fG wu (by decide);replace xx:=oN off_ xx (bC MK);replace HB:=oB off_ HB Akq;clear off_;replace wu:=Aside0.mk hs_;clear hs_)|((refine rw_putrow rfl rfl rfl rfl rfl xx.out HI65.out rfl (by simp [Value.oneCell']) ?_);intro w15 hs_ off_;replace aU:=oX off_ aU xx (by decide);replace HXq:=oX off_ HXq xx (by decide);replace bW:=oR off_ bW xx (by decide);replace HRb:=oR off_ HRb xx (by decide);replace HXp:=oX off_ HXp xx (by decide);replace HXf:=oX off_ HXf xx (by decide);replace dB:=oR off_ dB xx (by decide);replace fG:=oX off_ fG xx (by decide);replace wu:=oN off_ wu MK;replace HB:=oB off_ HB Akr;clear off_;replace xx:=Aside0.mk hs_;clear hs_))
     cases ok with
     |false=>
      rw [aj (by decide)] at H
      obtain rfl:=eF H
      (try dsimp only)
      go_wp2_with (first|((refine rw_putrow rfl rfl rfl rfl rfl aU.out HI73.out rfl (by simp [Value.oneCell']) ?_);intro w16 hs_ off_;replace HXq:=oX off_ HXq aU (by decide);replace bW:=oR off_ bW aU (by decide);replace HRb:=oR off_ HRb aU (by decide);replace HXp:=oN off_ HXp (bC cO);replace HXf:=oX off_ HXf aU (by decide);replace dB:=oR off_ dB aU (by decide);replace fG:=oX off_ fG aU (by decide);replace wu:=oX off_ wu aU (by decide);replace xx:=oX off_ xx aU (by decide);replace HB:=oB off_ HB o6;clear off_;replace aU:=Aside0.mk hs_;clear hs_)|((refine rw_putrow rfl rfl rfl rfl rfl HXq.out kR.out rfl (by simp [Value.oneCell']) ?_);intro w17 hs_ off_;replace aU:=oX off_ aU HXq (by decide);replace bW:=oR off_ bW HXq (by decide);replace HRb:=oR off_ HRb HXq (by decide);replace HXp:=oX off_ HXp HXq (by decide);replace HXf:=oN off_ HXf (bC bP);replace dB:=oR off_ dB HXq (by decide);replace fG:=oX off_ fG HXq (by decide);replace wu:=oX off_ wu HXq (by decide);replace xx:=oX off_ xx HXq (by decide);replace HB:=oB off_ HB GHXq;clear off_;replace HXq:=Aside0.mk hs_;clear hs_))
      (try simp only [Exit.inBlock,Exit.then])
      refine bodyPost_ret (ku rfl _ _ _ _ _ _ _ _ (0,0) (0,0) _ _ rfl aU.out hu73 rfl HI73.out rfl HXq.out tK rfl kR.out) rfl ?_;exact ⟨_,_,_,rfl,Kd.bV _ _ _ _ _,Kd.bV _ _ _ _ _,Kd.bV _ _ _ _ _,HB.out⟩
     |true=>
      rw [ah rfl] at H
      obtain rfl:=eF H
      (try dsimp only)
      go_upto_region 32 with (first|((with_reducible refine gate_dst (N:=143) rfl ?_);refine Ab9 ?hg_ (N:=143) ?hd_ ⟨qx,qp⟩ ⟨qy,qr⟩ ?hr_ ?_;(case hd_=>rfl);(case hg_=>rfl);(case hr_=>first|(go_simp;done)|(go_simp;rfl));intro Ai ci w16 ho_ ApO;have HRi:=Aside0.mk (Kd.R_lower ho_ (below_size HB.out));have hb_:=ApO;replace HB:=mB HB hb_;replace aU:=mX aU hb_;replace HXq:=mX HXq hb_;replace bW:=mR bW hb_;replace HRb:=mR HRb hb_;replace HXp:=mX HXp hb_;replace HXf:=mX HXf hb_;replace dB:=mR dB hb_;replace fG:=mX fG hb_;replace wu:=mX wu hb_;replace xx:=mX xx hb_;clear hb_;clear ho_ ApO)|((refine rw_set rfl rfl (i:=6) (v:= .slice Ai ([⟨qx,qp⟩,⟨qy,qr⟩]:List S65).length ci) (cs':= #[.int .u8 1,.int .u32 s,.int .u16 0,.int .u32 d,.int .u16 0,.int .u8 0,.slice Ai ([⟨qx,qp⟩,⟨qy,qr⟩]:List S65).length ci]) HXf.out rfl ?hr_ ?_);(case hr_=>(have m_:=(blk_cell HXf.out 6).trans (rfl:_=some (.slice none 0 0:Value)));(have mf_:=blk_frozen HXf.out 6);first|(go_simp;done)|(go_simp;rfl));intro w17 hs_ off_;replace aU:=oX off_ aU HXf (by decide);replace HXq:=oN off_ HXq bP;replace bW:=oR off_ bW HXf (by decide);replace HRb:=oR off_ HRb HXf (by decide);replace HXp:=oX off_ HXp HXf (by decide);replace dB:=oR off_ dB HXf (by decide);replace fG:=oX off_ fG HXf (by decide);replace wu:=oX off_ wu HXf (by decide);replace xx:=oX off_ xx HXf (by decide);replace HRi:=oI off_ HRi HXf (by decide);replace HB:=oB off_ HB GHXf;clear off_;replace HXf:=Aside0.mk hs_;clear hs_)|(refine Kd.event_run rfl (rw_load rfl rfl wu.out Try.underlying65 rfl HI65.out) ?_)|(refine Kd.event_run rfl (rw_load rfl rfl xx.out Try.underlying65 rfl HI65.out) ?_))
      (try dsimp only)
      go_upto_region 32 with (fail)
      refine start_ (n:=5) (S:=fun w'=>w'.heap[gp]?=some (.cells #[.int .u8 a,.int .u8 t,.int .u8 1,.int .u16 i,.int .u8 fl,.int .u16 of_,.int .u32 s,.int .u32 d,.slice Ao o.length co,.slice Ab b.length cb] 73 (0,0)) /\ w'.heap[gf]?=some (.cells #[.int .u8 1,.int .u32 s,.int .u16 0,.int .u32 d,.int .u16 0,.int .u8 0,.slice Ai ([⟨qx,qp⟩,⟨qy,qr⟩]:List S65).length ci] 124 (0,0))) (ds:=[]) #[false,false,false,false,false] (by kernel_rfl) rfl rfl ⟨HXp.out,HXf.out⟩ (fun hHeld=> ?_);refine with_tabW rlk.R32.tab rlk.R32.bits (fun HT_ HW_=> ?_);have hb_:=below_drew1 (Below.refl w17.heap.size w17);replace HB:=mB HB hb_;replace aU:=mX aU hb_;replace HXq:=mX HXq hb_;replace bW:=mR bW hb_;replace HRb:=mR HRb hb_;replace HXp:=mX HXp hb_;replace HXf:=mX HXf hb_;replace dB:=mR dB hb_;replace fG:=mX fG hb_
      replace wu:=mX wu hb_;replace xx:=mX xx hb_;replace HRi:=mI HRi hb_;clear hb_;generalize w17.drew=w18 at HB aU HXq bW HRb HXp HXf dB fG wu xx HRi hHeld|-
      refine tv 0 154 (.agg #[.int .u8 a,.int .u8 t,.int .u8 1,.int .u16 i,.int .u8 fl,.int .u16 of_,.int .u32 s,.int .u32 d,.slice Ao o.length co,.slice Ab b.length cb]) HT_ HW_ hHeld ?_ ?_
      ·intro w' s0
       obtain ⟨s0,s1⟩:=s0;exact rw_load (p:= .tmp 5) (ty:=73) (by rfl) (by rfl) s0 hu73 (by rfl) HI73.out
      refine nz 154 ?_;refine tv 1 155 (.agg #[.int .u8 1,.int .u32 s,.int .u16 0,.int .u32 d,.int .u16 0,.int .u8 0,.slice Ai ([⟨qx,qp⟩,⟨qy,qr⟩]:List S65).length ci]) HT_ HW_ hHeld ?_ ?_
      ·intro w' s0
       obtain ⟨s0,s1⟩:=s0;exact rw_load (p:= .tmp 7) (ty:=124) (by rfl) (by rfl) s1 tK (by rfl) kR.out
      refine nz 155 ?_;refine oz 2 (none) HT_ (fun K hK=> ?_);refine cu (by rfl) (by rfl) rfl rfl rfl aU.out HI73.out rfl (by simp [Value.oneCell']) ?_;intro w19 hs_ off_;replace HXq:=oX off_ HXq aU (by decide);replace bW:=oR off_ bW aU (by decide);replace HRb:=oR off_ HRb aU (by decide);replace HXp:=oN off_ HXp (bC cO);replace HXf:=oX off_ HXf aU (by decide);replace dB:=oR off_ dB aU (by decide);replace fG:=oX off_ fG aU (by decide);replace wu:=oX off_ wu aU (by decide);replace xx:=oX off_ xx aU (by decide);replace HRi:=oI off_ HRi aU (by decide);replace HB:=oB off_ HB o6;clear off_;replace aU:=Aside0.mk hs_;clear hs_;refine hK.out _ _ ⟨HXp.out,HXf.out⟩ (fun hHeld=> ?_);clear hK K;refine oz 3 (none) HT_ (fun K hK=> ?_)
      refine cu (by rfl) (by rfl) rfl rfl rfl HXq.out kR.out rfl (by simp [Value.oneCell']) ?_;intro w20 hs_ off_;replace aU:=oX off_ aU HXq (by decide);replace bW:=oR off_ bW HXq (by decide);replace HRb:=oR off_ HRb HXq (by decide);replace HXp:=oX off_ HXp HXq (by decide);replace HXf:=oN off_ HXf (bC bP);replace dB:=oR off_ dB HXq (by decide);replace fG:=oX off_ fG HXq (by decide);replace wu:=oX off_ wu HXq (by decide);replace xx:=oX off_ xx HXq (by decide);replace HRi:=oI off_ HRi HXq (by decide);replace HB:=oB off_ HB GHXq;clear off_;replace HXq:=Aside0.mk hs_;clear hs_;refine hK.out _ _ ⟨HXp.out,HXf.out⟩ (fun hHeld=> ?_);clear hK K;refine pz 4 4 HT_ ?_;refine dz HT_ ?_;clear HT_ HW_ hHeld
      (try dsimp only)
      go_wp2
      (try simp only [Exit.inBlock,Exit.then])
      refine bodyPost_ret (ku rfl _ _ _ _ _ _ _ _ (0,0) (0,0) _ _ rfl aU.out hu73 rfl HI73.out rfl HXq.out tK rfl kR.out) rfl ?_;exact ⟨_,_,_,rfl,bW.out,HRb.out,HRi.out,HB.out⟩
   |true=>
    rw [ah rfl] at H
    obtain rfl:=eF H
    (try dsimp only)
    go_upto_region 22 with (fail)
    refine start_ (n:=14) (S:=fun w'=>w'.cell? ⟨gu,3,none⟩=some (.int .u32 mr)) (ds:=[]) #[false,false,false,false,false,false,false,false,false,false,false,false,false,false] (by kernel_rfl) rfl rfl ((blk_cell fG.out 3).trans rfl) (fun hHeld=> ?_);refine with_tabW rlk.R22.tab rlk.R22.bits (fun HT_ HW_=> ?_);have hb_:=below_drew1 (Below.refl w9.heap.size w9);replace HB:=mB HB hb_;replace aU:=mX aU hb_;replace HXq:=mX HXq hb_;replace bW:=mR bW hb_;replace HRb:=mR HRb hb_;replace HXp:=mX HXp hb_;replace HXf:=mX HXf hb_;replace dB:=mR dB hb_;replace fG:=mX fG hb_;clear hb_;generalize w9.drew=w10 at HB aU HXq bW HRb HXp HXf dB fG hHeld|-
    refine pz 0 113 HT_ ?_;refine pz 4 117 HT_ ?_;refine tz 1 114 HT_ HW_ hHeld ?_;refine pz 2 115 HT_ ?_;refine pz 3 116 HT_ ?_;refine pz 8 121 HT_ ?_;refine pz 9 122 HT_ ?_;refine tz 5 118 HT_ HW_ hHeld ?_;refine pz 6 119 HT_ ?_;refine pz 7 120 HT_ ?_;refine oz 10 (none) HT_ (fun K hK=> ?_);refine kX (i:=2) (v:= .int .u16 (mr / 65536 % 65536)) (cs':= #[.int .u8 1,.int .u32 s,.int .u16 (mr / 65536 % 65536),.int .u32 d,.int .u16 0,.int .u8 0,.slice none 0 0]) (by rfl) (by rfl) HXf.out rfl (by (have m_:=(blk_cell HXf.out 2).trans (rfl:_=some (.int .u16 0:Value)));(have mf_:=blk_frozen HXf.out 2);first|(go_simp;done)|(go_simp;rfl)) ?_;intro w11 hs_ off_;replace aU:=oX off_ aU HXf (by decide);replace HXq:=oN off_ HXq bP;replace bW:=oR off_ bW HXf (by decide);replace HRb:=oR off_ HRb HXf (by decide)
    replace HXp:=oX off_ HXp HXf (by decide);replace dB:=oR off_ dB HXf (by decide);replace fG:=oX off_ fG HXf (by decide);replace HB:=oB off_ HB GHXf;clear off_;replace HXf:=Aside0.mk hs_;clear hs_;refine hK.out _ _ ((blk_cell fG.out 3).trans rfl) (fun hHeld=> ?_);clear hK K;refine pz 11 123 HT_ ?_;refine pz 12 124 HT_ ?_;refine oz 13 (none) HT_ (fun K hK=> ?_);refine kX (i:=4) (v:= .int .u16 (mr / 65536 % 65536)) (cs':= #[.int .u8 1,.int .u32 s,.int .u16 (mr / 65536 % 65536),.int .u32 d,.int .u16 (mr / 65536 % 65536),.int .u8 0,.slice none 0 0]) (by rfl) (by rfl) HXf.out rfl (by (have m_:=(blk_cell HXf.out 4).trans (rfl:_=some (.int .u16 0:Value)));(have mf_:=blk_frozen HXf.out 4);first|(go_simp;done)|(go_simp;rfl)) ?_;intro w12 hs_ off_;replace aU:=oX off_ aU HXf (by decide);replace HXq:=oN off_ HXq bP
    replace bW:=oR off_ bW HXf (by decide);replace HRb:=oR off_ HRb HXf (by decide);replace HXp:=oX off_ HXp HXf (by decide);replace dB:=oR off_ dB HXf (by decide);replace fG:=oX off_ fG HXf (by decide);replace HB:=oB off_ HB GHXf;clear off_;replace HXf:=Aside0.mk hs_;clear hs_;refine hK.out _ _ ((blk_cell fG.out 3).trans rfl) (fun hHeld=> ?_);clear hK K;refine dz HT_ ?_;clear HT_ HW_ hHeld
    (try dsimp only)
    go_upto_region 32 with (fail)
    refine start_ (n:=5) (S:=fun w'=>w'.heap[gp]?=some (.cells #[.int .u8 a,.int .u8 t,.int .u8 1,.int .u16 i,.int .u8 fl,.int .u16 of_,.int .u32 s,.int .u32 d,.slice Ao o.length co,.slice Ab b.length cb] 73 (0,0)) /\ w'.heap[gf]?=some (.cells #[.int .u8 1,.int .u32 s,.int .u16 (mr / 65536 % 65536),.int .u32 d,.int .u16 (mr / 65536 % 65536),.int .u8 0,.slice none 0 0] 124 (0,0))) (ds:=[]) #[false,false,false,false,false] (by kernel_rfl) rfl rfl ⟨HXp.out,HXf.out⟩ (fun hHeld=> ?_);refine with_tabW rlk.R32.tab rlk.R32.bits (fun HT_ HW_=> ?_);have hb_:=below_drew1 (Below.refl w12.heap.size w12);replace HB:=mB HB hb_;replace aU:=mX aU hb_;replace HXq:=mX HXq hb_;replace bW:=mR bW hb_;replace HRb:=mR HRb hb_;replace HXp:=mX HXp hb_;replace HXf:=mX HXf hb_;replace dB:=mR dB hb_;replace fG:=mX fG hb_;clear hb_
    generalize w12.drew=w13 at HB aU HXq bW HRb HXp HXf dB fG hHeld|-
    refine tv 0 154 (.agg #[.int .u8 a,.int .u8 t,.int .u8 1,.int .u16 i,.int .u8 fl,.int .u16 of_,.int .u32 s,.int .u32 d,.slice Ao o.length co,.slice Ab b.length cb]) HT_ HW_ hHeld ?_ ?_
    ·intro w' s0
     obtain ⟨s0,s1⟩:=s0;exact rw_load (p:= .tmp 5) (ty:=73) (by rfl) (by rfl) s0 hu73 (by rfl) HI73.out
    refine nz 154 ?_;refine tv 1 155 (.agg #[.int .u8 1,.int .u32 s,.int .u16 (mr / 65536 % 65536),.int .u32 d,.int .u16 (mr / 65536 % 65536),.int .u8 0,.slice none 0 0]) HT_ HW_ hHeld ?_ ?_
    ·intro w' s0
     obtain ⟨s0,s1⟩:=s0;exact rw_load (p:= .tmp 7) (ty:=124) (by rfl) (by rfl) s1 tK (by rfl) kR.out
    refine nz 155 ?_;refine oz 2 (none) HT_ (fun K hK=> ?_);refine cu (by rfl) (by rfl) rfl rfl rfl aU.out HI73.out rfl (by simp [Value.oneCell']) ?_;intro w14 hs_ off_;replace HXq:=oX off_ HXq aU (by decide);replace bW:=oR off_ bW aU (by decide);replace HRb:=oR off_ HRb aU (by decide);replace HXp:=oN off_ HXp (bC cO);replace HXf:=oX off_ HXf aU (by decide);replace dB:=oR off_ dB aU (by decide);replace fG:=oX off_ fG aU (by decide);replace HB:=oB off_ HB o6;clear off_;replace aU:=Aside0.mk hs_;clear hs_;refine hK.out _ _ ⟨HXp.out,HXf.out⟩ (fun hHeld=> ?_);clear hK K;refine oz 3 (none) HT_ (fun K hK=> ?_);refine cu (by rfl) (by rfl) rfl rfl rfl HXq.out kR.out rfl (by simp [Value.oneCell']) ?_;intro w15 hs_ off_;replace aU:=oX off_ aU HXq (by decide);replace bW:=oR off_ bW HXq (by decide)
    replace HRb:=oR off_ HRb HXq (by decide);replace HXp:=oX off_ HXp HXq (by decide);replace HXf:=oN off_ HXf (bC bP);replace dB:=oR off_ dB HXq (by decide);replace fG:=oX off_ fG HXq (by decide);replace HB:=oB off_ HB GHXq;clear off_;replace HXq:=Aside0.mk hs_;clear hs_;refine hK.out _ _ ⟨HXp.out,HXf.out⟩ (fun hHeld=> ?_);clear hK K;refine pz 4 4 HT_ ?_;refine dz HT_ ?_;clear HT_ HW_ hHeld
    (try dsimp only)
    go_wp2
    (try simp only [Exit.inBlock,Exit.then])
    refine bodyPost_ret (ku rfl _ _ _ _ _ _ _ _ (0,0) (0,0) _ _ rfl aU.out hu73 rfl HI73.out rfl HXq.out tK rfl kR.out) rfl ?_;exact ⟨_,_,_,rfl,bW.out,HRb.out,Kd.bV _ _ _ _ _,HB.out⟩
 ·have KR:(e2==0)=false:=iM ce
  have UD:(e2 !=0)=true:=bne_iff_ne.2 ce;rw [aj ce] at H
  clear ce;obtain rfl:=eF H
  (try dsimp only)
  go_wp2_with (first|((refine rw_putrow rfl rfl rfl rfl rfl aU.out HI73.out rfl (by simp [Value.oneCell']) ?_);intro w9 hs_ off_;replace HXq:=oX off_ HXq aU (by decide);replace bW:=oR off_ bW aU (by decide);replace HRb:=oR off_ HRb aU (by decide);replace HXp:=oN off_ HXp (bC cO);replace HXf:=oX off_ HXf aU (by decide);replace dB:=oR off_ dB aU (by decide);replace fG:=oX off_ fG aU (by decide);replace HB:=oB off_ HB o6;clear off_;replace aU:=Aside0.mk hs_;clear hs_)|((refine rw_putrow rfl rfl rfl rfl rfl HXq.out kR.out rfl (by simp [Value.oneCell']) ?_);intro w10 hs_ off_;replace aU:=oX off_ aU HXq (by decide);replace bW:=oR off_ bW HXq (by decide);replace HRb:=oR off_ HRb HXq (by decide);replace HXp:=oX off_ HXp HXq (by decide);replace HXf:=oN off_ HXf (bC bP);replace dB:=oR off_ dB HXq (by decide);replace fG:=oX off_ fG HXq (by decide);replace HB:=oB off_ HB GHXq;clear off_;replace HXq:=Aside0.mk hs_;clear hs_))
  (try simp only [Exit.inBlock,Exit.then])
  refine bodyPost_ret (ku rfl _ _ _ _ _ _ _ _ (0,0) (0,0) _ _ rfl aU.out hu73 rfl HI73.out rfl HXq.out tK rfl kR.out) rfl ?_;exact ⟨_,_,_,rfl,Kd.bV _ _ _ _ _,Kd.bV _ _ _ _ _,Kd.bV _ _ _ _ _,HB.out⟩
theorem rlk.bad (k:Nat) (A:Option Addr) (c:Nat) (l:List Int) (a t pr i fl of_ s d:Int) (o b:List Int) (e_:Int) (w:World) (hC:Kd.C (Kd.int .u8) w A l.length l) (hL:l.length<=c) (hP:bu.f k l=some (a,t,pr,i,fl,of_,s,d,o,b,e_)) (he:¬ e_=0):
  Calls Try.prog 66 #[.slice A l.length c] w fun e w'=>(LK.err e_).Told w.heap.size w e w':=by
 have hu73:=Try.underlying73;have tK:=Try.underlying124;have HB:=jy w;have HC:=Aside0.mk hC;have HL:=Aside0.mk hL;have HP:=Aside0.mk hP;have HI73:Aside0 ((Try.prog.info? 73).map (·.size)=some 10):=⟨by kernel_rfl⟩
 have kR:Aside0 ((Try.prog.info? 124).map (·.size)=some 7):=⟨by kernel_rfl⟩
 clear hC hL hP
 go_enter Try.func66,Try.ntmps66
 go_upto_region 1 with (first|((with_reducible refine gate_dst (N:=2) rfl ?_);refine box_event ?hg_ (N:=2) ?hd_ (cs:= #[.int .u8 0,.int .u8 0,.int .u8 0,.int .u16 0,.int .u8 0,.int .u16 0,.int .u32 0,.int .u32 0,.slice none 0 0,.slice none 0 0]) (t:=73) ?hr_ ?_;(case hd_=>rfl);(case hg_=>rfl);(case hr_=>first|(go_simp;done)|(go_simp;rfl));intro gi hgg_ w1 hbox_ hbb_;have o6:=Aside0.mk (show w.heap.size<=gi by rw [hgg_];exact below_size HB.out);have aU:=Aside0.mk hbox_;have hb_:=hbb_;replace HB:=mB HB hb_;clear hb_;clear hgg_ hbox_ hbb_)|((with_reducible refine gate_dst (N:=3) rfl ?_);refine box_event ?hg_ (N:=3) ?hd_ (cs:= #[.int .u8 0,.int .u32 0,.int .u16 0,.int .u32 0,.int .u16 0,.int .u8 0,.slice none 0 0]) (t:=124) ?hr_ ?_;(case hd_=>rfl);(case hg_=>rfl);(case hr_=>first|(go_simp;done)|(go_simp;rfl));intro gq hgg_ w2 hbox_ hbb_;have GHXq:=Aside0.mk (show w.heap.size<=gq by rw [hgg_];exact below_size HB.out);have HXq:=Aside0.mk hbox_;have hb_:=hbb_;replace HB:=mB HB hb_;replace aU:=mX aU hb_;clear hb_;clear hgg_ hbox_ hbb_))
 go_wp2_with fail
 refine (bu.calls k A c l a t pr i fl of_ s d o b e_ _ (Kd.aJ HC.out HB.out) HL.out HP.out).mono ?_;rintro ev w3 ⟨vo,vb,rfl,ho,ho2,hb⟩;have bW:=qP ho HB;obtain ⟨Ao,co,rfl,_,_⟩:=Kd.R_reads ho;clear ho;have HRb:=qP ho2 HB;obtain ⟨Ab,cb,rfl,_,_⟩:=Kd.R_reads ho2;clear ho2;have hb_:=hb;replace HB:=mB HB hb_;replace aU:=mX aU hb_;replace HXq:=mX HXq hb_;clear hb_;clear hb HP HC HL
 (try dsimp only)
 go_upto_region 2 with (((refine iy rfl rfl rfl rfl rfl HI73.out rfl (by simp [Value.oneCell']) ?_);intro jm jU dP))
 revert jm jU dP;intro w4 jU dP;have HXp:Aside0 (w4.heap[w3.heap.size]?=some (.cells #[.int .u8 a,.int .u8 t,.int .u8 pr,.int .u16 i,.int .u8 fl,.int .u16 of_,.int .u32 s,.int .u32 d,.slice Ao o.length co,.slice Ab b.length cb] 73 (0,0))):=⟨jU⟩
 have GHXp:=FO HB;have cO:=blk_less aU;have hb_:=dP;replace HB:=mB HB hb_;replace aU:=mX aU hb_;replace HXq:=mX HXq hb_;replace bW:=mR bW hb_;replace HRb:=mR HRb hb_;clear hb_;clear jU dP;generalize w3.heap.size=gp at HXp GHXp cO|-
 have he1:(e_==0)=false:=iM he;have he2:(e_ !=0)=true:=bne_iff_ne.2 he;clear he;have H:some (LK.err e_)=some (LK.err e_):=rfl
 (try dsimp only)
 go_wp2_with (first|((refine rw_putrow rfl rfl rfl rfl rfl aU.out HI73.out rfl (by simp [Value.oneCell']) ?_);intro w5 hs_ off_;replace HXq:=oX off_ HXq aU (by decide);replace bW:=oR off_ bW aU (by decide);replace HRb:=oR off_ HRb aU (by decide);replace HXp:=oN off_ HXp (bC cO);replace HB:=oB off_ HB o6;clear off_;replace aU:=Aside0.mk hs_;clear hs_)|((refine rw_putrow rfl rfl rfl rfl rfl HXq.out kR.out rfl (by simp [Value.oneCell']) ?_);intro w6 hs_ off_;replace aU:=oX off_ aU HXq (by decide);replace bW:=oR off_ bW HXq (by decide);replace HRb:=oR off_ HRb HXq (by decide);replace HXp:=oX off_ HXp HXq (by decide);replace HB:=oB off_ HB GHXq;clear off_;replace HXq:=Aside0.mk hs_;clear hs_))
 (try simp only [Exit.inBlock,Exit.then])
 refine bodyPost_ret (ku rfl _ _ _ _ _ _ _ _ (0,0) (0,0) _ _ rfl aU.out hu73 rfl HI73.out rfl HXq.out tK rfl kR.out) rfl ?_;exact ⟨_,_,_,rfl,Kd.bV _ _ _ _ _,Kd.bV _ _ _ _ _,Kd.bV _ _ _ _ _,HB.out⟩
theorem rlk.other (k:Nat) (A:Option Addr) (c:Nat) (l:List Int) (a t pr i fl of_ s d:Int) (o b:List Int) (w:World) (hC:Kd.C (Kd.int .u8) w A l.length l) (hL:l.length<=c) (hP:bu.f k l=some (a,t,pr,i,fl,of_,s,d,o,b,0)) (n17:¬ pr=17) (n6:¬ pr=6) (n1:¬ pr=1):
  Calls Try.prog 66 #[.slice A l.length c] w fun e w'=>(LK.err 21).Told w.heap.size w e w':=by
 have hu73:=Try.underlying73;have tK:=Try.underlying124;have HB:=jy w;have HC:=Aside0.mk hC;have HL:=Aside0.mk hL;have HP:=Aside0.mk hP;have HI73:Aside0 ((Try.prog.info? 73).map (·.size)=some 10):=⟨by kernel_rfl⟩
 have kR:Aside0 ((Try.prog.info? 124).map (·.size)=some 7):=⟨by kernel_rfl⟩
 clear hC hL hP
 go_enter Try.func66,Try.ntmps66
 go_upto_region 1 with (first|((with_reducible refine gate_dst (N:=2) rfl ?_);refine box_event ?hg_ (N:=2) ?hd_ (cs:= #[.int .u8 0,.int .u8 0,.int .u8 0,.int .u16 0,.int .u8 0,.int .u16 0,.int .u32 0,.int .u32 0,.slice none 0 0,.slice none 0 0]) (t:=73) ?hr_ ?_;(case hd_=>rfl);(case hg_=>rfl);(case hr_=>first|(go_simp;done)|(go_simp;rfl));intro gi hgg_ w1 hbox_ hbb_;have o6:=Aside0.mk (show w.heap.size<=gi by rw [hgg_];exact below_size HB.out);have aU:=Aside0.mk hbox_;have hb_:=hbb_;replace HB:=mB HB hb_;clear hb_;clear hgg_ hbox_ hbb_)|((with_reducible refine gate_dst (N:=3) rfl ?_);refine box_event ?hg_ (N:=3) ?hd_ (cs:= #[.int .u8 0,.int .u32 0,.int .u16 0,.int .u32 0,.int .u16 0,.int .u8 0,.slice none 0 0]) (t:=124) ?hr_ ?_;(case hd_=>rfl);(case hg_=>rfl);(case hr_=>first|(go_simp;done)|(go_simp;rfl));intro gq hgg_ w2 hbox_ hbb_;have GHXq:=Aside0.mk (show w.heap.size<=gq by rw [hgg_];exact below_size HB.out);have HXq:=Aside0.mk hbox_;have hb_:=hbb_;replace HB:=mB HB hb_;replace aU:=mX aU hb_;clear hb_;clear hgg_ hbox_ hbb_))
 go_wp2_with fail
 refine (bu.calls k A c l a t pr i fl of_ s d o b 0 _ (Kd.aJ HC.out HB.out) HL.out HP.out).mono ?_;rintro ev w3 ⟨vo,vb,rfl,ho,ho2,hb⟩;have bW:=qP ho HB;obtain ⟨Ao,co,rfl,_,_⟩:=Kd.R_reads ho;clear ho;have HRb:=qP ho2 HB;obtain ⟨Ab,cb,rfl,_,_⟩:=Kd.R_reads ho2;clear ho2;have hb_:=hb;replace HB:=mB HB hb_;replace aU:=mX aU hb_;replace HXq:=mX HXq hb_;clear hb_;clear hb HP HC HL
 (try dsimp only)
 go_upto_region 2 with (((refine iy rfl rfl rfl rfl rfl HI73.out rfl (by simp [Value.oneCell']) ?_);intro jm jU dP))
 revert jm jU dP;intro w4 jU dP;have HXp:Aside0 (w4.heap[w3.heap.size]?=some (.cells #[.int .u8 a,.int .u8 t,.int .u8 pr,.int .u16 i,.int .u8 fl,.int .u16 of_,.int .u32 s,.int .u32 d,.slice Ao o.length co,.slice Ab b.length cb] 73 (0,0))):=⟨jU⟩
 have GHXp:=FO HB;have cO:=blk_less aU;have hb_:=dP;replace HB:=mB HB hb_;replace aU:=mX aU hb_;replace HXq:=mX HXq hb_;replace bW:=mR bW hb_;replace HRb:=mR HRb hb_;clear hb_;clear jU dP;generalize w3.heap.size=gp at HXp GHXp cO|-
 have uM:=cz HXp.out 2 rfl;have Ap:=cz HXp.out 6 rfl;have BG:=cz HXp.out 7 rfl
 go_upto_region 5 with (((refine iy rfl rfl rfl rfl rfl kR.out rfl (by simp [Value.oneCell']) ?_);intro jm jU dP))
 clear uM Ap BG;revert jm jU dP;intro w5 jU dP;have HXf:Aside0 (w5.heap[w4.heap.size]?=some (.cells #[.int .u8 pr,.int .u32 s,.int .u16 0,.int .u32 d,.int .u16 0,.int .u8 0,.slice none 0 0] 124 (0,0))):=⟨jU⟩
 have GHXf:=FO HB;have bP:=blk_less HXq;have hb_:=dP;replace HB:=mB HB hb_;replace aU:=mX aU hb_;replace HXq:=mX HXq hb_;replace bW:=mR bW hb_;replace HRb:=mR HRb hb_;replace HXp:=mX HXp hb_;clear hb_;clear jU dP;generalize w4.heap.size=gf at HXf GHXf bP|-
 have uM:=cz HXp.out 2 rfl;have n171:(pr==17)=false:=iM n17;have n172:(pr !=17)=true:=bne_iff_ne.2 n17;have n61:(pr==6)=false:=iM n6;have n62:(pr !=6)=true:=bne_iff_ne.2 n6;have n11:(pr==1)=false:=iM n1;have n12:(pr !=1)=true:=bne_iff_ne.2 n1;clear n17 n6 n1;have H:some (LK.err 21)=some (LK.err 21):=rfl
 (try dsimp only)
 go_wp2_with (first|((refine rw_putrow rfl rfl rfl rfl rfl aU.out HI73.out rfl (by simp [Value.oneCell']) ?_);intro w6 hs_ off_;replace HXq:=oX off_ HXq aU (by decide);replace bW:=oR off_ bW aU (by decide);replace HRb:=oR off_ HRb aU (by decide);replace HXp:=oN off_ HXp (bC cO);replace HXf:=oX off_ HXf aU (by decide);replace HB:=oB off_ HB o6;clear off_;replace aU:=Aside0.mk hs_;clear hs_)|((refine rw_putrow rfl rfl rfl rfl rfl HXq.out kR.out rfl (by simp [Value.oneCell']) ?_);intro w7 hs_ off_;replace aU:=oX off_ aU HXq (by decide);replace bW:=oR off_ bW HXq (by decide);replace HRb:=oR off_ HRb HXq (by decide);replace HXp:=oX off_ HXp HXq (by decide);replace HXf:=oN off_ HXf (bC bP);replace HB:=oB off_ HB GHXq;clear off_;replace HXq:=Aside0.mk hs_;clear hs_))
 (try simp only [Exit.inBlock,Exit.then])
 refine bodyPost_ret (ku rfl _ _ _ _ _ _ _ _ (0,0) (0,0) _ _ rfl aU.out hu73 rfl HI73.out rfl HXq.out tK rfl kR.out) rfl ?_;exact ⟨_,_,_,rfl,Kd.bV _ _ _ _ _,Kd.bV _ _ _ _ _,Kd.bV _ _ _ _ _,HB.out⟩
theorem Oe.calls (k:Nat) (A:Option Addr) (c:Nat) (l:List Int) (r:LK) (w:World) (hC:Kd.C (Kd.int .u8) w A l.length l) (hL:l.length<=c) (h:Oe.f k l=some r) (hm:∀ a t pr i fl of_ s d o b e_,bu.f k l=some (a,t,pr,i,fl,of_,s,d,o,b,e_) ->∀ mt mc ms mr mb e,iI.f b=some (mt,mc,ms,mr,mb,e) ->jX mb /\ mb.length<=100000):
  Calls Try.prog 66 #[.slice A l.length c] w fun e w'=>r.Told w.heap.size w e w':=by
 unfold Oe.f at h
 obtain ⟨⟨a,t,pr,i,fl,of_,s,d,o,b,e_⟩,hp,h⟩:=dI h;dsimp only at h
 by_cases he:e_=0
 ·rw [ah he] at h
  subst he
  by_cases h17:pr=17
  ·rw [ah h17] at h
   subst h17;exact rlk.udp k A c l a t i fl of_ s d o b r w hC hL hp h
  ·rw [aj h17] at h
   by_cases h6:pr=6
   ·rw [ah h6] at h
    subst h6;exact rlk.tcp k A c l a t i fl of_ s d o b r w hC hL hp h
   ·rw [aj h6] at h
    by_cases h1:pr=1
    ·rw [ah h1] at h
     subst h1;exact rlk.Gw k A c l a t i fl of_ s d o b r w hC hL hp h (hm _ _ _ _ _ _ _ _ _ _ _ hp)
    ·rw [aj h1] at h
     obtain rfl:=eF h;exact rlk.other k A c l a t pr i fl of_ s d o b w hC hL hp h17 h6 h1
 ·rw [aj he] at h
  obtain rfl:=eF h;exact rlk.bad k A c l a t pr i fl of_ s d o b e_ w hC hL hp he
end Go.Proofs.Ytkmimamminddiaa.PB
namespace Go.Proofs.Ytkmimamminddiaa.Pure
open Go.RowKit Go.Proofs.Ytkmimamminddiaa.PB Go.Proofs.YtkmimamminddiaaW.PrintWords Go.Proofs.YtkmimamminddiaaW.PrintLast
open Go.Proofs.Ytkmimamminddiaa.Spec Go.Proofs.Ytkmimamminddiaa.BytesEq
section
variable {a t i fl of_ s d:Int} {o b:List Int}
theorem Aca (hs:GV s) (hd:GV d) (hb:jX b) (hl:b.length<=3000):∃ r:LK,Ee 4000 a t i fl of_ s d o b=some r /\ MI 4000 a t i fl of_ s d o b=some r /\ r.inn.length<=2:=by
 obtain ⟨us,ud,uc,ub,e,hu,h1,h2,h3,h4,h5⟩:=Akm hb;unfold Ee MI;rw [Yn hb (by omega),Vf hb (by omega),hu,bG,bG]
 dsimp only
 rw [Yp hs hd h1 h2 h3 h4 (by omega) 4000 (Nat.le_refl _),Vg hs hd h1 h2 h3 h4 (by omega) 4000 (Nat.le_refl _),bG,bG];generalize decide (uc=0 \/ uc=Tn (yT s d us ud ub))=rt
 by_cases he:e=0
 ·rw [ah he];try rw [ah he]
  cases rt<;>exact ⟨_,rfl,rfl,Nat.zero_le _⟩
 ·rw [aj he];try rw [aj he]
  exact ⟨_,rfl,rfl,Nat.zero_le _⟩
theorem Acb (hs:GV s) (hd:GV d) (hb:jX b) (hl:b.length<=3000):∃ r:LK,Ef 4000 a t i fl of_ s d o b=some r /\ MJ 4000 a t i fl of_ s d o b=some r /\ r.inn.length<=2:=by
 obtain ⟨ts,td,tq,ta,tf,tw,tc,tu,FP,tb,e,hu,h1,h2,h3,h4,h5,h6,h7,h8,h9,h10,h11,h12,h13⟩:=Aey hb;unfold Ef MJ;rw [X6 hb (by omega),U3 hb (by omega),hu,bG,bG]
 dsimp only
 rw [Yk hs hd h5 h9 h10 h11 h12 (by omega) 4000 (Nat.le_refl _),Vb hs hd h5 h9 h10 h11 h12 (by omega) 4000 (Nat.le_refl _),bG,bG];generalize (norm (tT s d (sV ts td tq ta tf tw tc tu FP tb))==65535)=rt
 by_cases he:e=0
 ·rw [ah he];try rw [ah he]
  cases rt<;>exact ⟨_,rfl,rfl,Nat.zero_le _⟩
 ·rw [aj he];try rw [aj he]
  exact ⟨_,rfl,rfl,Nat.zero_le _⟩
theorem Yy (hb:jX b) (hl:b.length<=3000):∃ r:LK,xh 4000 a t i fl of_ s d o b=some r /\ GY 4000 a t i fl of_ s d o b=some r /\ r.inn.length<=2:=by
 obtain ⟨mt,mc,ms,mr,mb,e,hu,h1,h2,h3,h4,h5,h6⟩:=WY hb;unfold xh GY;rw [qX.Ib hb (by omega),qX.yU hb (by omega),hu,bG,bG]
 dsimp only
 obtain ⟨r1,r2⟩:=qX.Yr (s:=ms) (r:=mr) h1 h2 h5 (by omega) 4000 (Nat.le_refl _);obtain ⟨ec,e1,e2⟩:=qX.Aeu mt mc ms mr ms mr mb mb;obtain ⟨er,e3,e4⟩:=qX.AbS mt mc ms mr mc ms mr mb mb;rw [r1,r2,e1,e2,e3,e4,Ab6 h5 (by omega) 4000 (by omega)];simp only [bG];generalize (norm (uI (words (qX.kV mt mc ms mr mb)))==65535)=rt
 by_cases he:e=0
 ·rw [ah he];try rw [ah he]
  cases rt with
  |false=>exact ⟨_,rfl,rfl,Nat.zero_le _⟩
  |true=>
   rw [ah rfl];try rw [ah rfl]
   cases ec with
   |true=>exact ⟨_,rfl,rfl,Nat.zero_le _⟩
   |false=>
    rw [aj (by decide)];try rw [aj (by decide)]
    cases er with
    |false=>exact ⟨_,rfl,rfl,Nat.zero_le _⟩
    |true=>
     rw [ah rfl];try rw [ah rfl]
     cases hw:lF mb with
     |none=>
      rw [wo hw,show innerS mb=none by unfold innerS;rw [hw];rfl];exact ⟨_,rfl,rfl,Nat.zero_le _⟩
     |some y=>
      rw [DJ hw,show innerS mb=some (⟨yD mb 12,(wU mb y.toNat).1⟩,⟨yD mb 16,(wU mb y.toNat).2⟩) by unfold innerS;rw [hw];rfl];exact ⟨_,rfl,rfl,Nat.le_refl _⟩
 ·rw [aj he];try rw [aj he]
  exact ⟨_,rfl,rfl,Nat.zero_le _⟩
end
theorem Yz {l:List Int} (h:jX l) (hl:l.length<=3000):∃ r:LK,ry.f 4000 l=some r /\ Oe.f 4000 l=some r /\ r.inn.length<=2:=by
 obtain ⟨s0,hp,hq,hs⟩:=both h (by omega) 4000 (by omega);obtain ⟨a,t,pr,i,fl,of_,s,d,o,b,e,hi,ha,ht,hpr,hii,hfl,hof,hs',hd',ho,ho4,AAP,hb,hbl⟩:=WX h;rw [hs,hi] at hp hq
 unfold ry.f Oe.f;rw [hp,hq,bG,bG]
 dsimp only
 by_cases he:e=0
 ·rw [ah he];try rw [ah he]
  by_cases h17:pr=17
  ·rw [ah h17];try rw [ah h17]
   exact Aca hs' hd' hb (by omega)
  ·rw [aj h17];try rw [aj h17]
   by_cases h6:pr=6
   ·rw [ah h6];try rw [ah h6]
    exact Acb hs' hd' hb (by omega)
   ·rw [aj h6];try rw [aj h6]
    by_cases h1:pr=1
    ·rw [ah h1];try rw [ah h1]
     exact Yy hb (by omega)
    ·rw [aj h1];try rw [aj h1]
     exact ⟨_,rfl,rfl,Nat.zero_le _⟩
 ·rw [aj he];try rw [aj he]
  exact ⟨_,rfl,rfl,Nat.zero_le _⟩
theorem AeD {l:List Int} (h:jX l) (hl:l.length<=3000):∀ a t pr i fl of_ s d o b e_,bu.f 4000 l=some (a,t,pr,i,fl,of_,s,d,o,b,e_) ->∀ mt mc ms mr mb e,iI.f b=some (mt,mc,ms,mr,mb,e) ->jX mb /\ mb.length<=100000:=by
 intro a t pr i fl of_ s d o b e_ hp mt mc ms mr mb e hm;obtain ⟨a',t',pr',i',fl',of',s',d',o',b',e',hi,_,_,_,_,_,_,_,_,_,_,_,hb,hbl⟩:=WX h;rw [yU h (by omega) 4000 (by omega),hi,Option.some.injEq] at hp
 obtain rfl:b'=b:=congrArg (fun x=>x.2.2.2.2.2.2.2.2.2.1) hp;obtain ⟨mt',mc',ms',mr',mb',e2,hu,_,_,_,_,h5,h6⟩:=WY hb;rw [qX.yU hb (by omega),hu,Option.some.injEq] at hm
 obtain rfl:mb'=mb:=congrArg (fun x=>x.2.2.2.2.1) hm;exact ⟨h5,by omega⟩
end Go.Proofs.Ytkmimamminddiaa.Pure
