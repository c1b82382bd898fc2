/- Texts of this claim, merged: PBx53, RwLk, PBx54, RwPt0, RwLookV, RwLkI, RwLkB, RwPtI, RwLkU, RwLkT, RwLook, PBx9, RwChg0, RwChgV, RwHd. -/
import Derived.Test.YtkmimamminddiaaZnb
import Derived.Test.YtkmimamminddiaaZnc
import Derived.Deep.Cut
import Derived.Deep.CutRange
import Derived.Deep.CutBlock
import Derived.Deep.WholeRow
set_option maxHeartbeats 40000000
set_option maxRecDepth 100000
set_option linter.unusedVariables false
set_option linter.unusedSimpArgs false
namespace Go.Proofs.Ytkmimamminddiaa.PB
open Go.RowKit Go.Proofs.ah.bT Go.Proofs.ah.cY Go.Proofs.ah.iw
attribute [local go_sem] dI dJ eI eJ cO cP dK dL
def cV.f (k:Nat) (l0:List Int):Option ((List (ng))×Bool):=(bO.f k l0).bind fun oD=>(if oD.2=true then (if 0<=oD.1 then (if oD.1<=(l0.length:Int) then ((cH.f (l0.drop (oD.1:Int).toNat)).bind fun za=>(if 0<=(wrap64 (oD.1+2)) then (if (wrap64 (oD.1+2))<=(l0.length:Int) then ((cH.f (l0.drop ((wrap64 (oD.1+2)):Int).toNat)).bind fun yC=>(if 9<(l0.length:Int) then (if (rd l0 9)=1 then (if 0<=(wrap64 (oD.1+4)) then (if (wrap64 (oD.1+4))<=(l0.length:Int) then ((cH.f (l0.drop ((wrap64 (oD.1+4)):Int).toNat)).bind fun qc=>(if 12<=(l0.length:Int) then ((dQ.f (l0.drop 12)).bind fun xw=>(if 16<=(l0.length:Int) then ((dQ.f (l0.drop 16)).bind fun xx=>(some ((([(⟨xw,qc⟩:ng),(⟨xx,qc⟩:ng)]:List (ng))),true))) else (none))) else (none))) else (none)) else (none)) else (if 12<=(l0.length:Int) then ((dQ.f (l0.drop 12)).bind fun zb=>(if 16<=(l0.length:Int) then ((dQ.f (l0.drop 16)).bind fun zf=>(some ((([(⟨zb,za⟩:ng),(⟨zf,yC⟩:ng)]:List (ng))),true))) else (none))) else (none))) else (none))) else (none)) else (none))) else (none)) else (none)) else (some (([]:List (ng)),false)))
def cV.T4:Bool×List (List Nat×List Nat):=(true,[([],[]),([],[]),([0,1],[0,1]),([2],[2]),([],[]),([],[]),([5],[5]),([4,6],[4,6]),([7,3],[7]),([3,8,0,1,2,3],[3]),([8,9,0,1,2,3,4,5,6,7,8,9],[8])])
def cV.B4:List Nat:=[0,0,3,7,0,0,32,112,255,511,1023]
theorem cV.V8:gB .any (opsOf Try.f104 4)=cV.T4:=by kernel_rfl
theorem cV.ND:cS cV.T4.2 cV.B4=true:=by kernel_rfl
def cV.T8:Bool×List (List Nat×List Nat):=(true,[([],[]),([0],[0]),([1],[1]),([],[]),([2,3],[2,3]),([],[]),([5],[5]),([6,2],[6]),([],[]),([7,8],[7,8]),([4,9],[4,9]),([10,7,0,1,2,3,4,5,6,7,8,9,10],[10]),([11,0,1,2,3,4,5,6,7,8,9,10,11],[])])
def cV.B8:List Nat:=[0,1,3,0,15,0,32,103,0,487,1023,2047,4095]
theorem cV.EZ:gB .any (opsOf Try.f104 8)=cV.T8:=by kernel_rfl
theorem cV.yK:cS cV.T8.2 cV.B8=true:=by kernel_rfl
theorem cV.calls (k:Nat) (A0:Option Addr) (c0:Nat) (l0:List Int) (r1:List (ng)) (r2:Bool) (w:World) (hr0:Kd.C (Kd.int .u8) w A0 l0.length l0) (hc0:l0.length<=c0) (h:cV.f k l0=some (r1,r2)):
  Calls Try.prog 104 #[.slice A0 l0.length c0] w fun e w'=>∃ oW:Value,e= .returned (.tuple #[oW,.bool r2]) /\ Kd.R Fx 65 w' w.heap.size (fun _=>True) oW r1 /\ Below w.heap.size w w':=by
 have mM:=Try.underlying65;have gj:=aa.mk hr0;have jx:=aa.mk hc0;clear hr0 hc0;have HB:=gI w
 have H:((bO.f k l0).bind fun oD=>(if oD.2=true then (if 0<=oD.1 then (if oD.1<=(l0.length:Int) then ((cH.f (l0.drop (oD.1:Int).toNat)).bind fun za=>(if 0<=(wrap64 (oD.1+2)) then (if (wrap64 (oD.1+2))<=(l0.length:Int) then ((cH.f (l0.drop ((wrap64 (oD.1+2)):Int).toNat)).bind fun yC=>(if 9<(l0.length:Int) then (if (rd l0 9)=1 then (if 0<=(wrap64 (oD.1+4)) then (if (wrap64 (oD.1+4))<=(l0.length:Int) then ((cH.f (l0.drop ((wrap64 (oD.1+4)):Int).toNat)).bind fun qc=>(if 12<=(l0.length:Int) then ((dQ.f (l0.drop 12)).bind fun xw=>(if 16<=(l0.length:Int) then ((dQ.f (l0.drop 16)).bind fun xx=>(some ((([(⟨xw,qc⟩:ng),(⟨xx,qc⟩:ng)]:List (ng))),true))) else (none))) else (none))) else (none)) else (none)) else (if 12<=(l0.length:Int) then ((dQ.f (l0.drop 12)).bind fun zb=>(if 16<=(l0.length:Int) then ((dQ.f (l0.drop 16)).bind fun zf=>(some ((([(⟨zb,za⟩:ng),(⟨zf,yC⟩:ng)]:List (ng))),true))) else (none))) else (none))) else (none))) else (none)) else (none))) else (none)) else (none)) else (some (([]:List (ng)),false))))=some (r1,r2):=h
 clear h;replace H:=dc H;obtain ⟨⟨nG,Apa⟩,uM,H⟩:=H
 (try dsimp -simprocs only at H)
 have A2:=aa.mk uM;clear uM
 by_cases c3:Apa=true
 rotate_left
 ·replace c3:=zE c3
  subst c3;have H1:(some (([]:List (ng)),false))=some (r1,r2):=by rw [av (show ¬ (false=true) by decide)] at H;exact H
  clear H;have H:=H1;clear H1;simp only [Option.some.injEq,Prod.mk.injEq] at H
  obtain ⟨rfl,rfl⟩:=H
  go_enter Try.func104,Try.ntmps104
  go_wp2_with (first|((with_reducible refine az (f:=86) rfl ?_);refine gL 10 Try.func86 #[.slice A0 l0.length c0] ?_;(with_reducible refine (bO.calls k _ _ l0 nG false _ ?aE ?aG A2.out).mono ?_);(case aE=>repeat (first|exact gj.out|(with_reducible refine Kd.fH ?_ _)|(with_reducible refine Kd.fz ?_ _)|(with_reducible refine Kd.gQ ?_)));(case aG=>exact jx.out);rintro e L0 ⟨rfl,hb⟩;refine ⟨_,rfl, ?_⟩;have aH:=aa.mk (au (bz HB) hb);clear HB;have HB:=aH;clear aH;(try clear hb);(try clear hb2);(try clear hk);(try clear hi)))
  go_ret2
  exact ⟨_,by first|rfl|(simp [aj,ak]<;>rfl)|(simp [*,aj,ak]<;>rfl),by first|exact Kd.bX _ _ _ _ _|exact Kd.jn _ _ _ _ _|exact Kd.jo _ _ _ _ _|exact Kd.jl _ _ _ _ _|exact Kd.jm _ _ _ _ _,bz HB⟩
 subst c3
 have H1:(if 0<=nG then (if nG<=(l0.length:Int) then ((cH.f (l0.drop (nG:Int).toNat)).bind fun za=>(if 0<=(wrap64 (nG+2)) then (if (wrap64 (nG+2))<=(l0.length:Int) then ((cH.f (l0.drop ((wrap64 (nG+2)):Int).toNat)).bind fun yC=>(if 9<(l0.length:Int) then (if (rd l0 9)=1 then (if 0<=(wrap64 (nG+4)) then (if (wrap64 (nG+4))<=(l0.length:Int) then ((cH.f (l0.drop ((wrap64 (nG+4)):Int).toNat)).bind fun qc=>(if 12<=(l0.length:Int) then ((dQ.f (l0.drop 12)).bind fun xw=>(if 16<=(l0.length:Int) then ((dQ.f (l0.drop 16)).bind fun xx=>(some ((([(⟨xw,qc⟩:ng),(⟨xx,qc⟩:ng)]:List (ng))),true))) else (none))) else (none))) else (none)) else (none)) else (if 12<=(l0.length:Int) then ((dQ.f (l0.drop 12)).bind fun zb=>(if 16<=(l0.length:Int) then ((dQ.f (l0.drop 16)).bind fun zf=>(some ((([(⟨zb,za⟩:ng),(⟨zf,yC⟩:ng)]:List (ng))),true))) else (none))) else (none))) else (none))) else (none)) else (none))) else (none)) else (none))=some (r1,r2):=by rw [aq rfl] at H;exact H
 clear H;have H:=H1;clear H1
 by_cases c4:0<=nG
 rotate_left
 ·rw [av c4] at H
  cases H
 rw [aq c4] at H
 have mw:=eq_true c4;have yh:decide (0<=nG)=true:=bN c4;clear c4
 by_cases c5:nG<=(l0.length:Int)
 rotate_left
 ·rw [av c5] at H
  cases H
 rw [aq c5] at H
 have mJ:=eq_true c5;have qn:decide (nG<=(l0.length:Int))=true:=bN c5;clear c5;replace H:=dc H;obtain ⟨za,wD,H⟩:=H
 (try dsimp -simprocs only at H)
 have A6:=aa.mk wD;clear wD;obtain ⟨yL,zP⟩:∃ j_:Int,(wrap64 (nG+2))=j_:=⟨_,rfl⟩
 replace H:(if 0<=(yL) then (if (yL)<=(l0.length:Int) then ((cH.f (l0.drop ((yL):Int).toNat)).bind fun yC=>(if 9<(l0.length:Int) then (if (rd l0 9)=1 then (if 0<=(wrap64 (nG+4)) then (if (wrap64 (nG+4))<=(l0.length:Int) then ((cH.f (l0.drop ((wrap64 (nG+4)):Int).toNat)).bind fun qc=>(if 12<=(l0.length:Int) then ((dQ.f (l0.drop 12)).bind fun xw=>(if 16<=(l0.length:Int) then ((dQ.f (l0.drop 16)).bind fun xx=>(some ((([(⟨xw,qc⟩:ng),(⟨xx,qc⟩:ng)]:List (ng))),true))) else (none))) else (none))) else (none)) else (none)) else (if 12<=(l0.length:Int) then ((dQ.f (l0.drop 12)).bind fun zb=>(if 16<=(l0.length:Int) then ((dQ.f (l0.drop 16)).bind fun zf=>(some ((([(⟨zb,za⟩:ng),(⟨zf,yC⟩:ng)]:List (ng))),true))) else (none))) else (none))) else (none))) else (none)) else (none))=some (r1,r2):=by first|(rw [zP] at H;exact H)|(simp only [zP] at H|-;exact H)
 (try rw [zP] at A2)
 (try rw [zP] at A6)
 have Afy:(IntKind.i64.wrap (nG+2))=yL:=(gK _).trans zP
 by_cases c8:0<=(yL)
 rotate_left
 ·rw [av c8] at H
  cases H
 rw [aq c8] at H
 have nU:=eq_true c8;have Dl:decide (0<=(yL))=true:=bN c8;clear c8
 by_cases c9:(yL)<=(l0.length:Int)
 rotate_left
 ·rw [av c9] at H
  cases H
 rw [aq c9] at H
 have wW:=eq_true c9;have O0:decide ((yL)<=(l0.length:Int))=true:=bN c9;clear c9;replace H:=dc H;obtain ⟨yC,zU,H⟩:=H
 (try dsimp -simprocs only at H)
 have Lz:=aa.mk zU;clear zU
 by_cases qX:9<(l0.length:Int)
 rotate_left
 ·rw [av qX] at H
  cases H
 rw [aq qX] at H
 have BA:decide (9<(l0.length:Int))=true:=bN qX;have Nd:decide (9<l0.length)=true:=bN (by omega);clear qX
 by_cases uQ:(rd l0 9)=1
 rotate_left
 ·rw [av uQ] at H
  have FA:((rd l0 9)==1)=false:=fq uQ;have Nf:((rd l0 9) !=1)=true:=lf uQ
  by_cases RL:12<=(l0.length:Int)
  rotate_left
  ·rw [av RL] at H
   cases H
  rw [aq RL] at H
  have AfR:=eq_true RL;have AfS:decide (12<=(l0.length:Int))=true:=bN RL;clear RL;replace H:=dc H;obtain ⟨zb,SH,H⟩:=H
  (try dsimp -simprocs only at H)
  have A32:=aa.mk SH;clear SH
  by_cases c33:16<=(l0.length:Int)
  rotate_left
  ·rw [av c33] at H
   cases H
  rw [aq c33] at H
  have As6:=eq_true c33;have As7:decide (16<=(l0.length:Int))=true:=bN c33;clear c33;replace H:=dc H;obtain ⟨zf,AgH,H⟩:=H
  (try dsimp -simprocs only at H)
  have A34:=aa.mk AgH;clear AgH;obtain ⟨Av3,SI⟩:∃ y_:List (ng),y_=(([(⟨zb,za⟩:ng),(⟨zf,yC⟩:ng)]:List (ng))):=⟨_,rfl⟩
  rw [<- SI] at H
  have YK:=aa.mk SI;clear SI;simp only [Option.some.injEq,Prod.mk.injEq] at H
  obtain ⟨rfl,rfl⟩:=H
  go_enter Try.func104,Try.ntmps104
  try go_wp2_with (first|((with_reducible refine az (f:=86) rfl ?_);refine gL 10 Try.func86 #[.slice A0 l0.length c0] ?_;(with_reducible refine (bO.calls k _ _ l0 nG true _ ?aE ?aG A2.out).mono ?_);(case aE=>repeat (first|exact gj.out|(with_reducible refine Kd.fH ?_ _)|(with_reducible refine Kd.fz ?_ _)|(with_reducible refine Kd.gQ ?_)));(case aG=>exact jx.out);rintro e AX ⟨rfl,hb⟩;refine ⟨_,rfl, ?_⟩;have aH:=aa.mk (au (bz HB) hb);clear HB;have HB:=aH;clear aH;(try clear hb);(try clear hb2);(try clear hk);(try clear hi)))
  have aH:=aa.mk (bf HB.out);clear HB;have HB:=aH;clear aH;obtain ⟨Aoc,Jk,_,Jl,_⟩:=info_parts fY;obtain ⟨A37,Abv,RQ,RR⟩:=fS (P:=Try.prog) (Value.int .u8) 0 23 5 .i64 Try.underlying23 Jk Jl A0 c0 l0 nG gA gA jx.out;have JO:=aa.mk (Kd.dH (h1:=fun _=>rfl) (RQ _ (Kd.dw gj.out)));have SJ:=aa.mk RR;clear RQ RR Jk Jl;obtain ⟨Aoe,Jm,_,Jn,_⟩:=info_parts fY
  obtain ⟨A38,Abw,RS,RT⟩:=fS (P:=Try.prog) (Value.int .u8) 0 23 5 .i64 Try.underlying23 Jm Jn A0 c0 l0 (yL) gA gA jx.out;have JP:=aa.mk (Kd.dH (h1:=fun _=>rfl) (RS _ (Kd.dw gj.out)));have SK:=aa.mk RT;clear RS RT Jm Jn;refine dB (n:=11) (S:=fun w'=>True) (ds:=[]) #[false,false,false,false,false,false,false,false,false,false,false] (by kernel_rfl) rfl rfl trivial (fun hHeld=> ?_);refine bF cV.V8 cV.ND (fun ax eu=> ?_);generalize AX.drew=VM at HB JO JP hHeld|-
  refine pz 0 15 ax ?_;refine pz 1 16 ax ?_;refine pz 2 17 ax ?_;refine pz 4 19 ax ?_;refine pz 5 20 ax ?_;refine pz 6 21 ax ?_;refine pz 7 22 ax ?_;refine oz 3 (some 18) ax (fun K hK=> ?_);refine i9 Try.func87 (by kernel_rfl) rfl #[.slice A37 (l0.drop (nG:Int).toNat).length (c0 - nG.toNat)] (by rfl) rfl rfl (by (try simp only [List.map_toArray,List.map_cons,List.map_nil]);first|done|(rw [show (l0.drop (nG:Int).toNat).length=(l0.length - nG.toNat) from List.length_drop]<;>rfl)|rfl|(simp only [List.length_drop,List.length_take];rfl)|(go_simp;done)|(simp [Act.eval,IntKind.signed];done)|(simp [Act.eval,IntKind.signed];rfl)) ?_
  with_reducible refine (cH.calls _ _ (l0.drop (nG:Int).toNat) za _ ?aE ?aG A6.out).mono ?_
  (case aE=>exact Kd.aW JO.out (bz HB))
  (case aG=>exact SJ.out)
  rintro e w' ⟨rfl,⟨nd,rfl⟩⟩;refine ⟨_,rfl, ?_⟩;refine hK.out _ _ trivial (fun hHeld=> ?_);clear hK K;refine nz 18 ?_;refine oz 8 (some 23) ax (fun K hK=> ?_);refine i9 Try.func87 (by kernel_rfl) rfl #[.slice A38 (l0.drop ((yL):Int).toNat).length (c0 - (yL).toNat)] (by rfl) rfl rfl (by (try simp only [List.map_toArray,List.map_cons,List.map_nil]);first|done|(rw [show (l0.drop ((yL):Int).toNat).length=(l0.length - (yL).toNat) from List.length_drop]<;>rfl)|(simp only [zP];rfl)|rfl|(simp only [List.length_drop,List.length_take];rfl)|(go_simp;done)|(simp [Act.eval,IntKind.signed];done)|(simp [Act.eval,IntKind.signed];rfl)) ?_
  with_reducible refine (cH.calls _ _ (l0.drop ((yL):Int).toNat) yC _ ?aE ?aG Lz.out).mono ?_
  (case aE=>exact Kd.aW JP.out (bz HB))
  (case aG=>exact SK.out)
  rintro e w' ⟨rfl,⟨nd,rfl⟩⟩;refine ⟨_,rfl, ?_⟩;refine hK.out _ _ trivial (fun hHeld=> ?_);clear hK K;refine nz 23 ?_;refine pz 9 6 ax ?_;refine pz 10 7 ax ?_;refine dz ax ?_;have L6:0<=(9:Int):=(by omega)
  have L7:9<(l0.length:Int):=gA;obtain ⟨FJ,Acs,pT⟩:=Kd.dG gj.out 9 L6 L7
  cases Acs
  (try simp only [show (9:Int).toNat=9 from rfl,Nat.reduceMul,Nat.reduceEqDiff,Go.Addr.add,↓reduceIte] at pT)
  have AgI:(9<l0.length)=True:=eq_true (by omega)
  (try rw [show ((9:Int)).toNat=9 from rfl] at pT)
  replace pT:=(HB.out.cell (dF w _ pT)).trans pT;replace L6:=eq_true L6;replace L7:=eq_true L7
  try go_wp2
  (try (rw [fu VM];generalize jK:World.drewN VM _=VM;have aH:aa (Below w.heap.size w VM):=⟨by rw [<- jK];exact bz HB⟩;clear HB jK;have HB:=aH;clear aH))
  have aH:=aa.mk (bf HB.out);clear HB;have HB:=aH;clear aH;obtain ⟨Av4,YL,_,YM,_⟩:=info_parts fY;obtain ⟨qo,Apc,AgJ,AgK⟩:=fS (P:=Try.prog) (Value.int .u8) 0 23 5 .i64 Try.underlying23 YL YM (some FJ) c0 l0 12 (by omega) gA jx.out;have YN:=aa.mk (Kd.dH (h1:=fun _=>rfl) (AgJ _ (Kd.dw gj.out)));have AgL:=aa.mk AgK;clear AgJ AgK YL YM;obtain ⟨Av5,YO,_,YP,_⟩:=info_parts fY;obtain ⟨A41,Apd,AgM,AgN⟩:=fS (P:=Try.prog) (Value.int .u8) 0 23 5 .i64 Try.underlying23 YO YP (some FJ) c0 l0 16 (by omega) gA jx.out
  have YQ:=aa.mk (Kd.dH (h1:=fun _=>rfl) (AgM _ (Kd.dw gj.out)));have AgO:=aa.mk AgN;clear AgM AgN YO YP;refine dB (n:=13) (S:=fun w'=>True) (ds:=[]) #[false,false,false,false,false,false,false,false,false,false,false,false,false] (by kernel_rfl) rfl rfl trivial (fun hHeld=> ?_);refine bF cV.EZ cV.yK (fun ax eu=> ?_);generalize VM.drew=w39 at HB YN YQ hHeld|-
  refine pz 0 34 ax ?_;refine pz 1 35 ax ?_;refine pz 3 37 ax ?_;refine pz 5 39 ax ?_;refine pz 6 40 ax ?_;refine pz 8 42 ax ?_;refine oz 2 (some 36) ax (fun K hK=> ?_);refine i9 Try.func124 (by kernel_rfl) rfl #[.slice qo (l0.drop 12).length (c0 - 12)] (by rfl) rfl rfl (by (try simp only [List.map_toArray,List.map_cons,List.map_nil]);first|done|(rw [show (l0.drop 12).length=(l0.length - 12) from List.length_drop]<;>rfl)|rfl|(simp only [List.length_drop,List.length_take];rfl)|(go_simp;done)|(simp [Act.eval,IntKind.signed];done)|(simp [Act.eval,IntKind.signed];rfl)) ?_
  with_reducible refine (dQ.calls _ _ (l0.drop 12) zb _ ?aE ?aG A32.out).mono ?_
  (case aE=>exact Kd.aW YN.out (bz HB))
  (case aG=>exact AgL.out)
  rintro e w' ⟨rfl,⟨nd,rfl⟩⟩;refine ⟨_,rfl, ?_⟩;refine hK.out _ _ trivial (fun hHeld=> ?_);clear hK K;refine nz 36 ?_;refine pz 4 38 ax ?_;refine oz 7 (some 41) ax (fun K hK=> ?_);refine i9 Try.func124 (by kernel_rfl) rfl #[.slice A41 (l0.drop 16).length (c0 - 16)] (by rfl) rfl rfl (by (try simp only [List.map_toArray,List.map_cons,List.map_nil]);first|done|(rw [show (l0.drop 16).length=(l0.length - 16) from List.length_drop]<;>rfl)|rfl|(simp only [List.length_drop,List.length_take];rfl)|(go_simp;done)|(simp [Act.eval,IntKind.signed];done)|(simp [Act.eval,IntKind.signed];rfl)) ?_
  with_reducible refine (dQ.calls _ _ (l0.drop 16) zf _ ?aE ?aG A34.out).mono ?_
  (case aE=>exact Kd.aW YQ.out (bz HB))
  (case aG=>exact AgO.out)
  rintro e w' ⟨rfl,⟨nd,rfl⟩⟩;refine ⟨_,rfl, ?_⟩;refine hK.out _ _ trivial (fun hHeld=> ?_);clear hK K;refine nz 41 ?_;refine pz 9 43 ax ?_;refine oz 10 (some 44) ax (fun K hK=> ?_)
  refine Kd.qm Fx _ 65 ?hg (N:=44) ?hd (xs:=([(⟨zb,za⟩:ng),(⟨zf,yC⟩:ng)]:List (ng))) (inner:=[.int .u32 zb,.int .u16 za,.int .u32 zf,.int .u16 yC]) (ok:=fun _=>True) (qW:=fun _=>True) ?hr ?hp (fun _ hk=>hk) trivial (Below.refl _ _) (Nat.le_refl _) (by simp) ?_;(case hd=>rfl);(case hg=>rfl);(case hr=>first|(go_simp;done)|(go_simp;rfl));(case hp=>exact (cD.c2 (show Kd.M Fx _ _ _ (⟨zb,za⟩:ng) [.int .u32 zb,.int .u16 za] from (xQ _ _ _ (⟨zb,za⟩:ng))) (cD.c2 (show Kd.M Fx _ _ _ (⟨zf,yC⟩:ng) [.int .u32 zf,.int .u16 yC] from (xQ _ _ _ (⟨zf,yC⟩:ng))) (cD.none _ _))));intro Av7 SL SM hb fT iN;clear fT iN
  (first|rw [<- YK.out] at SM|(simp only [Int.reduceToNat] at SM;rw [<- YK.out] at SM))
  have aH:=aa.mk (Kd.bP SM (af (bz HB)));have aK:=aa.mk (au (bz HB) hb);clear HB;have AgP:=aH;have HB:=aK;clear aH aK;clear hb SM;refine hK.out _ _ trivial (fun hHeld=> ?_);clear hK K;refine nz 44 ?_;refine pz 11 2 ax ?_;refine pz 12 3 ax ?_;refine dz ax ?_
  try go_wp2
  go_ret2
  exact ⟨_,by first|rfl|(simp [aj,ak]<;>rfl)|(simp only [<- zP];first|rfl|(simp [aj,ak]<;>rfl))|(simp [*,aj,ak]<;>rfl),by (with_reducible repeat (first|apply Kd.fg|apply Kd.eV|apply Kd.fj));exact AgP.out,bz HB⟩
 rw [aq uQ] at H
 have FA:((rd l0 9)==1)=true:=fF uQ;have Nf:((rd l0 9) !=1)=false:=kL uQ;clear uQ;obtain ⟨pH,tS⟩:∃ j_:Int,(wrap64 (nG+4))=j_:=⟨_,rfl⟩
 replace H:(if 0<=(pH) then (if (pH)<=(l0.length:Int) then ((cH.f (l0.drop ((pH):Int).toNat)).bind fun qc=>(if 12<=(l0.length:Int) then ((dQ.f (l0.drop 12)).bind fun xw=>(if 16<=(l0.length:Int) then ((dQ.f (l0.drop 16)).bind fun xx=>(some ((([(⟨xw,qc⟩:ng),(⟨xx,qc⟩:ng)]:List (ng))),true))) else (none))) else (none))) else (none)) else (none))=some (r1,r2):=by first|(rw [tS] at H;exact H)|(simp only [tS] at H|-;exact H)
 (try rw [tS] at A2)
 (try rw [tS] at A6)
 (try rw [tS] at Lz)
 have Acn:(IntKind.i64.wrap (nG+4))=pH:=(gK _).trans tS
 by_cases CN:0<=(pH)
 rotate_left
 ·rw [av CN] at H
  cases H
 rw [aq CN] at H
 have DN:=eq_true CN;have SG:decide (0<=(pH))=true:=bN CN;clear CN
 by_cases wS:(pH)<=(l0.length:Int)
 rotate_left
 ·rw [av wS] at H
  cases H
 rw [aq wS] at H
 have wT:=eq_true wS;have Fz:decide ((pH)<=(l0.length:Int))=true:=bN wS;clear wS;replace H:=dc H;obtain ⟨qc,wU,H⟩:=H
 (try dsimp -simprocs only at H)
 have Qq:=aa.mk wU;clear wU
 by_cases rH:12<=(l0.length:Int)
 rotate_left
 ·rw [av rH] at H
  cases H
 rw [aq rH] at H
 have I0:=eq_true rH;have Ri:decide (12<=(l0.length:Int))=true:=bN rH;clear rH;replace H:=dc H;obtain ⟨xw,wV,H⟩:=H
 (try dsimp -simprocs only at H)
 have OY:=aa.mk wV;clear wV
 by_cases AW:16<=(l0.length:Int)
 rotate_left
 ·rw [av AW] at H
  cases H
 rw [aq AW] at H
 have Rj:=eq_true AW;have XV:decide (16<=(l0.length:Int))=true:=bN AW;clear AW;replace H:=dc H;obtain ⟨xx,Dj,H⟩:=H
 (try dsimp -simprocs only at H)
 have uM:=aa.mk Dj;clear Dj;obtain ⟨Av8,SN⟩:∃ y_:List (ng),y_=(([(⟨xw,qc⟩:ng),(⟨xx,qc⟩:ng)]:List (ng))):=⟨_,rfl⟩
 rw [<- SN] at H
 have YR:=aa.mk SN;clear SN;simp only [Option.some.injEq,Prod.mk.injEq] at H
 obtain ⟨rfl,rfl⟩:=H
 go_enter Try.func104,Try.ntmps104
 try go_wp2_with (first|((with_reducible refine az (f:=86) rfl ?_);refine gL 10 Try.func86 #[.slice A0 l0.length c0] ?_;(with_reducible refine (bO.calls k _ _ l0 nG true _ ?aE ?aG A2.out).mono ?_);(case aE=>repeat (first|exact gj.out|(with_reducible refine Kd.fH ?_ _)|(with_reducible refine Kd.fz ?_ _)|(with_reducible refine Kd.gQ ?_)));(case aG=>exact jx.out);rintro e w21 ⟨rfl,hb⟩;refine ⟨_,rfl, ?_⟩;have aH:=aa.mk (au (bz HB) hb);clear HB;have HB:=aH;clear aH;(try clear hb);(try clear hb2);(try clear hk);(try clear hi)))
 have aH:=aa.mk (bf HB.out);clear HB;have HB:=aH;clear aH;obtain ⟨Av9,YS,_,YT,_⟩:=info_parts fY;obtain ⟨A23,Ape,AgQ,AgR⟩:=fS (P:=Try.prog) (Value.int .u8) 0 23 5 .i64 Try.underlying23 YS YT A0 c0 l0 nG gA gA jx.out;have JO:=aa.mk (Kd.dH (h1:=fun _=>rfl) (AgQ _ (Kd.dw gj.out)));have SJ:=aa.mk AgR;clear AgQ AgR YS YT;obtain ⟨Awa,YU,_,YV,_⟩:=info_parts fY
 obtain ⟨A24,Apg,AgS,AgT⟩:=fS (P:=Try.prog) (Value.int .u8) 0 23 5 .i64 Try.underlying23 YU YV A0 c0 l0 (yL) gA gA jx.out;have JP:=aa.mk (Kd.dH (h1:=fun _=>rfl) (AgS _ (Kd.dw gj.out)));have SK:=aa.mk AgT;clear AgS AgT YU YV;refine dB (n:=11) (S:=fun w'=>True) (ds:=[]) #[false,false,false,false,false,false,false,false,false,false,false] (by kernel_rfl) rfl rfl trivial (fun hHeld=> ?_);refine bF cV.V8 cV.ND (fun ax eu=> ?_);generalize w21.drew=Qu at HB JO JP hHeld|-
 refine pz 0 15 ax ?_;refine pz 1 16 ax ?_;refine pz 2 17 ax ?_;refine pz 4 19 ax ?_;refine pz 5 20 ax ?_;refine pz 6 21 ax ?_;refine pz 7 22 ax ?_;refine oz 3 (some 18) ax (fun K hK=> ?_);refine i9 Try.func87 (by kernel_rfl) rfl #[.slice A23 (l0.drop (nG:Int).toNat).length (c0 - nG.toNat)] (by rfl) rfl rfl (by (try simp only [List.map_toArray,List.map_cons,List.map_nil]);first|done|(rw [show (l0.drop (nG:Int).toNat).length=(l0.length - nG.toNat) from List.length_drop]<;>rfl)|rfl|(simp only [List.length_drop,List.length_take];rfl)|(go_simp;done)|(simp [Act.eval,IntKind.signed];done)|(simp [Act.eval,IntKind.signed];rfl)) ?_
 with_reducible refine (cH.calls _ _ (l0.drop (nG:Int).toNat) za _ ?aE ?aG A6.out).mono ?_
 (case aE=>exact Kd.aW JO.out (bz HB))
 (case aG=>exact SJ.out)
 rintro e w' ⟨rfl,⟨nd,rfl⟩⟩;refine ⟨_,rfl, ?_⟩;refine hK.out _ _ trivial (fun hHeld=> ?_);clear hK K;refine nz 18 ?_;refine oz 8 (some 23) ax (fun K hK=> ?_);refine i9 Try.func87 (by kernel_rfl) rfl #[.slice A24 (l0.drop ((yL):Int).toNat).length (c0 - (yL).toNat)] (by rfl) rfl rfl (by (try simp only [List.map_toArray,List.map_cons,List.map_nil]);first|done|(rw [show (l0.drop ((yL):Int).toNat).length=(l0.length - (yL).toNat) from List.length_drop]<;>rfl)|(simp only [zP];rfl)|rfl|(simp only [List.length_drop,List.length_take];rfl)|(go_simp;done)|(simp [Act.eval,IntKind.signed];done)|(simp [Act.eval,IntKind.signed];rfl)) ?_
 with_reducible refine (cH.calls _ _ (l0.drop ((yL):Int).toNat) yC _ ?aE ?aG Lz.out).mono ?_
 (case aE=>exact Kd.aW JP.out (bz HB))
 (case aG=>exact SK.out)
 rintro e w' ⟨rfl,⟨nd,rfl⟩⟩;refine ⟨_,rfl, ?_⟩;refine hK.out _ _ trivial (fun hHeld=> ?_);clear hK K;refine nz 23 ?_;refine pz 9 6 ax ?_;refine pz 10 7 ax ?_;refine dz ax ?_;have L6:0<=(9:Int):=(by omega)
 have L7:9<(l0.length:Int):=gA;obtain ⟨FJ,Acs,pT⟩:=Kd.dG gj.out 9 L6 L7
 cases Acs
 (try simp only [show (9:Int).toNat=9 from rfl,Nat.reduceMul,Nat.reduceEqDiff,Go.Addr.add,↓reduceIte] at pT)
 have AgI:(9<l0.length)=True:=eq_true (by omega)
 (try rw [show ((9:Int)).toNat=9 from rfl] at pT)
 replace pT:=(HB.out.cell (dF w _ pT)).trans pT;replace L6:=eq_true L6;replace L7:=eq_true L7;obtain ⟨Ans,I2,_,I3,_⟩:=info_parts fY;obtain ⟨A25,AaK,Rl,Rm⟩:=fS (P:=Try.prog) (Value.int .u8) 0 23 5 .i64 Try.underlying23 I2 I3 (some FJ) c0 l0 (pH) gA gA jx.out;have AgU:=aa.mk (Kd.dH (h1:=fun _=>rfl) (Rl _ (Kd.dw gj.out)));have AgV:=aa.mk Rm;clear Rl Rm I2 I3
 try go_wp2_with (first|((with_reducible refine az (f:=87) rfl ?_);refine uf (some 32) rfl rfl Try.func87 (by kernel_rfl) rfl #[.slice A25 (l0.drop ((pH):Int).toNat).length (c0 - (pH).toNat)] rfl (by (try simp only [List.map_toArray,List.map_cons,List.map_nil]);first|done|(rw [show (l0.drop ((pH):Int).toNat).length=(l0.length - (pH).toNat) from List.length_drop]<;>rfl)|(simp only [tS];rfl)|rfl|(simp only [List.length_drop,List.length_take];rfl)|(go_simp;done)|(simp [Act.eval,IntKind.signed];done)|(simp [Act.eval,IntKind.signed];rfl)) ?_;(with_reducible refine (cH.calls _ _ (l0.drop ((pH):Int).toNat) qc _ ?aE ?aG Qq.out).mono ?_);(case aE=>exact Kd.aW AgU.out (bz HB));(case aG=>exact AgV.out);rintro e w' ⟨rfl,⟨nd,rfl⟩⟩;refine ⟨_,rfl, ?_⟩))
 (try (rw [fu Qu];generalize jK:World.drewN Qu _=Qu;have aH:aa (Below w.heap.size w Qu):=⟨by rw [<- jK];exact bz HB⟩;clear HB jK;have HB:=aH;clear aH))
 have aH:=aa.mk (bf HB.out);clear HB;have HB:=aH;clear aH;obtain ⟨Ant,I4,_,I5,_⟩:=info_parts fY;obtain ⟨A27,AaL,Rn,Ro⟩:=fS (P:=Try.prog) (Value.int .u8) 0 23 5 .i64 Try.underlying23 I4 I5 (some FJ) c0 l0 12 (by omega) gA jx.out;have YW:=aa.mk (Kd.dH (h1:=fun _=>rfl) (Rn _ (Kd.dw gj.out)));have AgW:=aa.mk Ro;clear Rn Ro I4 I5;obtain ⟨Anv,I6,_,I7,_⟩:=info_parts fY;obtain ⟨A28,AaM,Rp,Rq⟩:=fS (P:=Try.prog) (Value.int .u8) 0 23 5 .i64 Try.underlying23 I6 I7 (some FJ) c0 l0 16 (by omega) gA jx.out
 have YX:=aa.mk (Kd.dH (h1:=fun _=>rfl) (Rp _ (Kd.dw gj.out)));have AgX:=aa.mk Rq;clear Rp Rq I6 I7;refine dB (n:=13) (S:=fun w'=>True) (ds:=[]) #[false,false,false,false,false,false,false,false,false,false,false,false,false] (by kernel_rfl) rfl rfl trivial (fun hHeld=> ?_);refine bF cV.EZ cV.yK (fun ax eu=> ?_);generalize Qu.drew=w26 at HB YW YX hHeld|-
 refine pz 0 34 ax ?_;refine pz 1 35 ax ?_;refine pz 3 37 ax ?_;refine pz 5 39 ax ?_;refine pz 6 40 ax ?_;refine pz 8 42 ax ?_;refine oz 2 (some 36) ax (fun K hK=> ?_);refine i9 Try.func124 (by kernel_rfl) rfl #[.slice A27 (l0.drop 12).length (c0 - 12)] (by rfl) rfl rfl (by (try simp only [List.map_toArray,List.map_cons,List.map_nil]);first|done|(rw [show (l0.drop 12).length=(l0.length - 12) from List.length_drop]<;>rfl)|rfl|(simp only [List.length_drop,List.length_take];rfl)|(go_simp;done)|(simp [Act.eval,IntKind.signed];done)|(simp [Act.eval,IntKind.signed];rfl)) ?_
 with_reducible refine (dQ.calls _ _ (l0.drop 12) xw _ ?aE ?aG OY.out).mono ?_
 (case aE=>exact Kd.aW YW.out (bz HB))
 (case aG=>exact AgW.out)
 rintro e w' ⟨rfl,⟨nd,rfl⟩⟩;refine ⟨_,rfl, ?_⟩;refine hK.out _ _ trivial (fun hHeld=> ?_);clear hK K;refine nz 36 ?_;refine pz 4 38 ax ?_;refine oz 7 (some 41) ax (fun K hK=> ?_);refine i9 Try.func124 (by kernel_rfl) rfl #[.slice A28 (l0.drop 16).length (c0 - 16)] (by rfl) rfl rfl (by (try simp only [List.map_toArray,List.map_cons,List.map_nil]);first|done|(rw [show (l0.drop 16).length=(l0.length - 16) from List.length_drop]<;>rfl)|rfl|(simp only [List.length_drop,List.length_take];rfl)|(go_simp;done)|(simp [Act.eval,IntKind.signed];done)|(simp [Act.eval,IntKind.signed];rfl)) ?_
 with_reducible refine (dQ.calls _ _ (l0.drop 16) xx _ ?aE ?aG uM.out).mono ?_
 (case aE=>exact Kd.aW YX.out (bz HB))
 (case aG=>exact AgX.out)
 rintro e w' ⟨rfl,⟨nd,rfl⟩⟩;refine ⟨_,rfl, ?_⟩;refine hK.out _ _ trivial (fun hHeld=> ?_);clear hK K;refine nz 41 ?_;refine pz 9 43 ax ?_;refine oz 10 (some 44) ax (fun K hK=> ?_)
 refine Kd.qm Fx _ 65 ?hg (N:=44) ?hd (xs:=([(⟨xw,qc⟩:ng),(⟨xx,qc⟩:ng)]:List (ng))) (inner:=[.int .u32 xw,.int .u16 qc,.int .u32 xx,.int .u16 qc]) (ok:=fun _=>True) (qW:=fun _=>True) ?hr ?hp (fun _ hk=>hk) trivial (Below.refl _ _) (Nat.le_refl _) (by simp) ?_;(case hd=>rfl);(case hg=>rfl);(case hr=>first|(go_simp;done)|(go_simp;rfl));(case hp=>exact (cD.c2 (show Kd.M Fx _ _ _ (⟨xw,qc⟩:ng) [.int .u32 xw,.int .u16 qc] from (xQ _ _ _ (⟨xw,qc⟩:ng))) (cD.c2 (show Kd.M Fx _ _ _ (⟨xx,qc⟩:ng) [.int .u32 xx,.int .u16 qc] from (xQ _ _ _ (⟨xx,qc⟩:ng))) (cD.none _ _))));intro Awb w29 SP hb fT iN;clear fT iN
 (first|rw [<- YR.out] at SP|(simp only [Int.reduceToNat] at SP;rw [<- YR.out] at SP))
 have aH:=aa.mk (Kd.bP SP (af (bz HB)));have aK:=aa.mk (au (bz HB) hb);clear HB;have AgY:=aH;have HB:=aK;clear aH aK;clear hb SP;refine hK.out _ _ trivial (fun hHeld=> ?_);clear hK K;refine nz 44 ?_;refine pz 11 2 ax ?_;refine pz 12 3 ax ?_;refine dz ax ?_
 try go_wp2
 go_ret2
 exact ⟨_,by first|rfl|(simp [aj,ak]<;>rfl)|(simp only [<- zP,<- tS];first|rfl|(simp [aj,ak]<;>rfl))|(simp [*,aj,ak]<;>rfl),by (with_reducible repeat (first|apply Kd.fg|apply Kd.eV|apply Kd.fj));exact AgY.out,bz HB⟩
def qu.f (aU:Int) (bh:Int) (bn:Int) (bu:Int) (cn:List Int):Option (Bool):=(kX.f aU).bind fun SQ=>(some (SQ==3))
theorem qu.calls (aU:Int) (bh:Int) (bn:Int) (bu:Int) (fI:Option Addr) (fJ:Nat) (cn:List Int) (r:Bool) (w:World) (jP:Kd.C (Kd.int .u8) w fI cn.length cn) (jQ:cn.length<=fJ) (h:qu.f aU bh bn bu cn=some r):
  Calls Try.prog 106 #[.agg #[.int .u8 aU,.int .u8 bh,.int .u16 bn,.int .u32 bu,.slice fI cn.length fJ]] w fun e w'=>e= .returned (.bool r) /\ Below w.heap.size w w':=by
 have oA:=Try.underlying101;have oq:=aa.mk jP;have oY:=aa.mk jQ;clear jP jQ;have HB:=gI w;have H:((kX.f aU).bind fun SQ=>(some (SQ==3)))=some r:=h;clear h;replace H:=dc H;obtain ⟨SQ,uM,H⟩:=H
 (try dsimp -simprocs only at H)
 have A2:=aa.mk uM;clear uM;obtain rfl:=cN H
 go_enter Try.func106,Try.ntmps106
 go_wp2_with (first|((with_reducible refine az (f:=125) rfl ?_);refine gL 5 Try.func125 #[.int .u8 aU] ?_;(with_reducible refine (kX.calls aU SQ _ A2.out).mono ?_);rintro e w' ⟨rfl,⟨nd,rfl⟩⟩;refine ⟨_,rfl, ?_⟩))
 go_ret
 exact ⟨by first|rfl|(simp [aj,ak]<;>rfl)|(simp [*,aj,ak]<;>rfl),bz HB⟩
def V9.f (k:Nat) (a0:Int) (a1:Int) (ew:Int) (ez:Int) (ee:Int) (gS:List Int):Option (Int):=(nW.f k a0 a1 ew ez 0 gS).bind fun NF=>(if NF.2=true then (if NF.1=65535 then (some NF.1) else (some (Go.bits .xor .u16 IntKind.u16.max NF.1))) else (some 0))
theorem sB (v b:Value) (w:World):(callMethod (.iface 179 v) "lych/rewrite.right" #[b]).run Try.prog w= .ok (.enter 156 #[v,b]) w:=by kernel_rfl
attribute [local go_sem] sB
theorem sC (v:Value) (w:World):(callMethod (.iface 179 v) "lych/rewrite.proto" #[]).run Try.prog w= .ok (.enter 155 #[v]) w:=by kernel_rfl
attribute [local go_sem] sC
theorem sD (v b:Value) (w:World):(callMethod (.iface 181 v) "lych/rewrite.right" #[b]).run Try.prog w= .ok (.enter 158 #[v,b]) w:=by kernel_rfl
attribute [local go_sem] sD
theorem sE (v:Value) (w:World):(callMethod (.iface 181 v) "lych/rewrite.proto" #[]).run Try.prog w= .ok (.enter 157 #[v]) w:=by kernel_rfl
attribute [local go_sem] sE
theorem sG (v b:Value) (w:World):(callMethod (.iface 183 v) "lych/rewrite.right" #[b]).run Try.prog w= .ok (.enter 161 #[v,b]) w:=by kernel_rfl
attribute [local go_sem] sG
theorem sH (v:Value) (w:World):(callMethod (.iface 183 v) "lych/rewrite.proto" #[]).run Try.prog w= .ok (.enter 160 #[v]) w:=by kernel_rfl
attribute [local go_sem] sH
theorem sI (v:Value) (w:World):(Instr.typeAssert (.iface 179 v) 130 179 false).run Try.prog w= .ok v w:=by kernel_rfl
attribute [local go_sem] sI
theorem sJ (v:Value) (w:World):(Instr.typeAssert (.iface 181 v) 130 181 false).run Try.prog w= .ok v w:=by kernel_rfl
attribute [local go_sem] sJ
theorem sK (v:Value) (w:World):(Instr.typeAssert (.iface 183 v) 130 183 false).run Try.prog w= .ok v w:=by kernel_rfl
attribute [local go_sem] sK
theorem sL (c0 c1 c2 c3:Value) (w:World):(Instr.field 179 (.agg #[c0,c1,c2,c3]) 0).run Try.prog w= .ok (.agg #[c0,c1,c2,c3]) w:=by kernel_rfl
attribute [local go_sem] sL
theorem sM (c0 c1 c2 c3 c4 c5 c6 c7 c8 c9:Value) (w:World):(Instr.field 181 (.agg #[c0,c1,c2,c3,c4,c5,c6,c7,c8,c9]) 0).run Try.prog w= .ok (.agg #[c0,c1,c2,c3,c4,c5,c6,c7,c8,c9]) w:=by kernel_rfl
attribute [local go_sem] sM
theorem sN (c0 c1 c2 c3 c4:Value) (w:World):(Instr.field 183 (.agg #[c0,c1,c2,c3,c4]) 0).run Try.prog w= .ok (.agg #[c0,c1,c2,c3,c4]) w:=by kernel_rfl
attribute [local go_sem] sN
theorem ia {P:Program} {fn:Func} {p u p2 u2:Tmp} {ty NG:TypeId} (h:fn.results= #[.cell p ty,.tmp u,.cell p2 NG,.tmp u2]) (tmps:Array Value) (w:World) (g g2:Nat) (t t2:TypeId) (cs Ln:Array Value) (fr YY:Nat×Nat) (d d2:TypeDesc)
  (hp:tmps.getD p undef= .pointer (some ⟨g,0,none⟩)) (hg:w.heap[g]?=some (.cells cs t fr)) (hu:P.underlying ty=some d) (hd:(match d with| .struct _| .array _ _=>true|_=>false)=true) (hi:(P.info? ty).map (·.size)=some cs.size)
  (SR:tmps.getD p2 undef= .pointer (some ⟨g2,0,none⟩)) (hg2:w.heap[g2]?=some (.cells Ln t2 YY)) (hu2:P.underlying NG=some d2) (hd2:(match d2 with| .struct _| .array _ _=>true|_=>false)=true) (hi2:(P.info? NG).map (·.size)=some Ln.size):
  (results fn tmps).run P w= .ok (.tuple #[.agg cs,tmps.getD u undef,.agg Ln,tmps.getD u2 undef]) w:=by
 have h1:tmps[p]?.getD undef= .pointer (some ⟨g,0,none⟩):=by simpa using hp
 have h2:tmps[p2]?.getD undef= .pointer (some ⟨g2,0,none⟩):=by simpa using SR
 simp [results,h,h1,h2,asAddr,run_loadVar_row w g t ty cs fr d hg hu hd hi,run_loadVar_row w g2 t2 NG Ln YY d2 hg2 hu2 hd2 hi2]
theorem iq {P:Program} {fn:Func} {p p2 u2:Tmp} {ty NG:TypeId} (h:fn.results= #[.cell p ty,.cell p2 NG,.tmp u2]) (tmps:Array Value) (w:World) (g g2:Nat) (t t2:TypeId) (cs Ln:Array Value) (fr YY:Nat×Nat) (d d2:TypeDesc)
  (hp:tmps.getD p undef= .pointer (some ⟨g,0,none⟩)) (hg:w.heap[g]?=some (.cells cs t fr)) (hu:P.underlying ty=some d) (hd:(match d with| .struct _| .array _ _=>true|_=>false)=true) (hi:(P.info? ty).map (·.size)=some cs.size)
  (SR:tmps.getD p2 undef= .pointer (some ⟨g2,0,none⟩)) (hg2:w.heap[g2]?=some (.cells Ln t2 YY)) (hu2:P.underlying NG=some d2) (hd2:(match d2 with| .struct _| .array _ _=>true|_=>false)=true) (hi2:(P.info? NG).map (·.size)=some Ln.size):
  (results fn tmps).run P w= .ok (.tuple #[.agg cs,.agg Ln,tmps.getD u2 undef]) w:=by
 have h1:tmps[p]?.getD undef= .pointer (some ⟨g,0,none⟩):=by simpa using hp
 have h2:tmps[p2]?.getD undef= .pointer (some ⟨g2,0,none⟩):=by simpa using SR
 simp [results,h,h1,h2,asAddr,run_loadVar_row w g t ty cs fr d hg hu hd hi,run_loadVar_row w g2 t2 NG Ln YY d2 hg2 hu2 hd2 hi2]
inductive RB where
 |no
 |udp (us ud uc:Int) (ub:List Int)
 |tcp (ts td tq ta tf tw tc tu:Int) (tJ tb:List Int)
 |zg (mt mc ms mr:Int) (mb:List Int)
structure LK where
 (a t pr i fl cr s d:Int) (o b:List Int) (x:RB) (sp dp ff:Int) (qD:List ng) (e:Int)
def LK.err (e:Int):LK:=⟨0,0,0,0,0,0,0,0,[],[],.no,0,0,0,[],e⟩
def RB.V (w:World) (base:Nat) (v:Value):RB ->Prop
 | .no=>v= .nilIface
 | .udp us ud uc ub=>∃ v3:Value,v= .iface 179 (.agg #[.int .u16 us,.int .u16 ud,.int .u16 uc,v3]) /\ Kd.R (Kd.int .u8) 5 w base (fun _=>True) v3 ub
 | .tcp ts td tq ta tf tw tc tu tJ tb=>∃ v8 v9:Value,v= .iface 181 (.agg #[.int .u16 ts,.int .u16 td,.int .u32 tq,.int .u32 ta,.int .u8 tf,.int .u16 tw,.int .u16 tc,.int .u16 tu,v8,v9]) /\ Kd.R (Kd.int .u8) 5 w base (fun _=>True) v8 tJ /\ Kd.R (Kd.int .u8) 5 w base (fun _=>True) v9 tb
 | .zg mt mc ms mr mb=>∃ v4:Value,v= .iface 183 (.agg #[.int .u8 mt,.int .u8 mc,.int .u16 ms,.int .u32 mr,v4]) /\ Kd.R (Kd.int .u8) 5 w base (fun _=>True) v4 mb
def rR (k:Nat) (a t i fl cr s d:Int) (o b:List Int):Option LK:=
 (jd.f b).bind fun ⟨us,ud,uc,ub,e⟩=>if e=0 then (oZ.f k s d us ud uc ub).bind fun r=>if r=true then some ⟨a,t,17,i,fl,cr,s,d,o,b,.udp us ud uc ub,us,ud,0,[],0⟩ else some (LK.err 22) else some (LK.err e)
def rS (k:Nat) (a t i fl cr s d:Int) (o b:List Int):Option LK:=
 (nT.f b).bind fun ⟨ts,td,tq,ta,tf,tw,tc,tu,tJ,tb,e⟩=>if e=0 then (o8.f k s d ts td tq ta tf tw tc tu tJ tb).bind fun r=>if r=true then some ⟨a,t,6,i,fl,cr,s,d,o,b,.tcp ts td tq ta tf tw tc tu tJ tb,ts,td,tf,[],0⟩ else some (LK.err 22) else some (LK.err e)
def nH (k:Nat) (a t i fl cr s d:Int) (o b:List Int):Option LK:=
 (iD.f b).bind fun ⟨mt,mc,ms,mr,mb,e⟩=>if e=0 then (nF.f k mt mc ms mr mb).bind fun r=>if r=true then
  (cV.f k mb).bind fun ⟨l,ok⟩=>(kA.f mt mc ms mr mb).bind fun ec=>if ec=true then some ⟨a,t,1,i,fl,cr,s,d,o,b,.zg mt mc ms mr mb,mr / 65536 % 65536,mr / 65536 % 65536,0,[],0⟩
  else (qu.f mt mc ms mr mb).bind fun er=>if er=true then (if ok=true then some ⟨a,t,1,i,fl,cr,s,d,o,b,.zg mt mc ms mr mb,0,0,0,l,0⟩ else some (LK.err 21)) else some (LK.err 21)
  else some (LK.err 22) else some (LK.err e)
def iQ.f (k:Nat) (l:List Int):Option LK:=
 (da.f k l).bind fun ⟨a,t,pr,i,fl,cr,s,d,o,b,e⟩=>if e=0 then
  if pr=17 then rR k a t i fl cr s d o b else if pr=6 then rS k a t i fl cr s d o b else if pr=1 then nH k a t i fl cr s d o b else some (LK.err 21)
 else some (LK.err e)
def LK.Post (r:LK) (base:Nat) (w0:World) (e:Ending) (w':World):Prop:=
 ∃ v8 v9 vx vi:Value,e= .returned (.tuple #[.agg #[.int .u8 r.a,.int .u8 r.t,.int .u8 r.pr,.int .u16 r.i,.int .u8 r.fl,.int .u16 r.cr,.int .u32 r.s,.int .u32 r.d,v8,v9],vx,.agg #[.int .u8 r.pr,.int .u32 r.s,.int .u16 r.sp,.int .u32 r.d,.int .u16 r.dp,.int .u8 r.ff,vi],.int .i64 r.e]) /\ Kd.R (Kd.int .u8) 5 w' base (fun _=>True) v8 r.o /\ Kd.R (Kd.int .u8) 5 w' base (fun _=>True) v9 r.b /\ r.x.V w' base vx /\ Kd.R Fx 65 w' base (fun _=>True) vi r.qD /\ Below base w0 w'
def look.R9.T:Bool×List (List Nat×List Nat):=(true,[([],[]),([],[]),([0,0],[0]),([2,0,2],[]),([1,3,0,1,2,3],[1]),([4,0,1,2,3,4],[])])
theorem look.R9.tab:gB .any (opsOf Try.f69 9)=look.R9.T:=by kernel_rfl
theorem look.R9.bits:cS look.R9.T.2 [0,0,1,5,15,31]=true:=by kernel_rfl
def look.FL.T:Bool×List (List Nat×List Nat):=(true,[([],[]),([0],[0]),([1],[1]),([],[]),([3],[3]),([4],[4]),([0,1,2],[]),([6,0,1,2],[6]),([7,2,0,1,2],[2,7]),([0,1,2,3,4,5,6,7,8],[]),([9,0,1,2,3,4,5,6,7,8],[9]),([10,5,8,0,1,2,3,4,5,6,7,8],[5,10])])
theorem look.FL.tab:gB .any (opsOf Try.f69 21)=look.FL.T:=by kernel_rfl
theorem look.FL.bits:cS look.FL.T.2 [0,1,3,0,8,24,7,71,199,511,1023,2047]=true:=by kernel_rfl
def look.GZ.T:Bool×List (List Nat×List Nat):=(true,[([],[]),([],[]),([],[]),([0,0],[0]),([1,3,0,1,3],[1]),([2,4,0,1,2,3,4],[2]),([5,0,1,2,3,4,5],[])])
theorem look.GZ.tab:gB .any (opsOf Try.f69 25)=look.GZ.T:=by kernel_rfl
theorem look.GZ.bits:cS look.GZ.T.2 [0,0,0,1,11,31,63]=true:=by kernel_rfl
def look.R7.T:Bool×List (List Nat×List Nat):=(true,[([],[]),([],[]),([],[]),([0,0],[0]),([3,0,3],[]),([1,4,0,1,3,4],[1]),([2,5,0,1,2,3,4,5],[2])])
theorem look.R7.tab:gB .any (opsOf Try.f69 7)=look.R7.T:=by kernel_rfl
theorem look.R7.bits:cS look.R7.T.2 [0,0,0,1,9,27,63]=true:=by kernel_rfl
def look.R24.T:Bool×List (List Nat×List Nat):=(true,[([],[]),([0],[0]),([1],[1]),([],[]),([3],[3]),([4],[4]),([],[]),([6],[6]),([7],[7]),([0,1,2],[]),([9,0,1,2],[9]),([10,2,0,1,2],[2,10]),([0,1,2,3,4,5,9,10,11],[]),([12,0,1,2,3,4,5,9,10,11],[12]),([13,5,11,0,1,2,3,4,5,9,10,11],[5,13]),([0,1,2,3,4,5,6,7,8,9,10,11,12,13,14],[]),([15,8,14,0,1,2,3,4,5,6,7,8,9,10,11,12,13,14],[8,15])])
theorem look.R24.tab:gB .any (opsOf Try.f69 24)=look.R24.T:=by kernel_rfl
theorem look.R24.bits:cS look.R24.T.2 [0,1,3,0,8,24,0,64,192,7,519,1543,3647,7743,15935,32767,65535]=true:=by kernel_rfl
def look.Ce.T:Bool×List (List Nat×List Nat):=(true,[([],[]),([0],[0]),([1],[1]),([2],[2]),([],[]),([4],[4]),([5],[5]),([6],[6]),([0,1,2,3],[]),([8,0,1,2,3],[8]),([9,3,0,1,2,3],[3,9]),([0,1,2,3,4,5,6,7,8,9,10],[]),([11,0,1,2,3,4,5,6,7,8,9,10],[11]),([12,7,10,0,1,2,3,4,5,6,7,8,9,10],[7,12])])
theorem look.Ce.tab:gB .any (opsOf Try.f69 16)=look.Ce.T:=by kernel_rfl
theorem look.Ce.bits:cS look.Ce.T.2 [0,1,3,7,0,16,48,112,15,271,783,2047,4095,8191]=true:=by kernel_rfl
def look.YZ.T:Bool×List (List Nat×List Nat):=(true,[([],[]),([],[]),([0,0],[0]),([2,0,2],[]),([1,3,0,1,2,3],[1]),([4,0,1,2,3,4],[])])
theorem look.YZ.tab:gB .any (opsOf Try.f69 18)=look.YZ.T:=by kernel_rfl
theorem look.YZ.bits:cS look.YZ.T.2 [0,0,1,5,15,31]=true:=by kernel_rfl
def look.R4.T:Bool×List (List Nat×List Nat):=(true,[([],[]),([],[]),([],[]),([0,0],[0]),([3,0,3],[]),([1,4,0,1,3,4],[1]),([2,5,0,1,2,3,4,5],[2])])
theorem look.R4.tab:gB .any (opsOf Try.f69 4)=look.R4.T:=by kernel_rfl
theorem look.R4.bits:cS look.R4.T.2 [0,0,0,1,9,27,63]=true:=by kernel_rfl
attribute [local go_sem] dI dJ eI eJ cO cP dK dL
def Wa.f (k:Nat) (a0:Int) (a1:Int) (ew:Int) (ez:Int) (ee:Int) (jg:Int) (jh:Int) (ji:Int) (kB:Int) (jj:Int) (iz:List Int) (iA:List Int):Option (Int):=(nX.f k a0 a1 ew ez ee jg jh ji 0 jj iz iA).bind fun Y0=>(if Y0.2=true then (some (Go.bits .xor .u16 IntKind.u16.max Y0.1)) else (some 0))
def uF.f (k:Nat) (aU:Int) (bh:Int) (bn:Int) (bu:Int) (cn:List Int):Option (Int):=(iE.f aU bh 0 bu cn).bind fun JQ=>(if JQ.2=0 then ((mK.f k JQ.1).bind fun SS=>(some SS)) else (some 0))
theorem uF.calls (k:Nat) (aU:Int) (bh:Int) (bn:Int) (bu:Int) (fI:Option Addr) (fJ:Nat) (cn:List Int) (r:Int) (w:World) (jP:Kd.C (Kd.int .u8) w fI cn.length cn) (jQ:cn.length<=fJ) (h:uF.f k aU bh bn bu cn=some r):
  Calls Try.prog 111 #[.agg #[.int .u8 aU,.int .u8 bh,.int .u16 bn,.int .u32 bu,.slice fI cn.length fJ]] w fun e w'=>e= .returned (.int .u16 r) /\ Below w.heap.size w w':=by
 have oA:=Try.underlying101;have oq:=aa.mk jP;have oY:=aa.mk jQ;clear jP jQ;have HB:=gI w;have H:((iE.f aU bh 0 bu cn).bind fun JQ=>(if JQ.2=0 then ((mK.f k JQ.1).bind fun SS=>(some SS)) else (some 0)))=some r:=h;clear h;replace H:=dc H;obtain ⟨⟨Wb,L8⟩,uM,H⟩:=H
 (try dsimp -simprocs only at H)
 have A2:=aa.mk uM;clear uM
 by_cases c3:L8=0
 ·rw [aq c3] at H
  have oJ:(L8==0)=true:=fF c3;have qI:(L8 !=0)=false:=kL c3;clear c3;replace H:=dc H;obtain ⟨SS,qo,H⟩:=H
  (try dsimp -simprocs only at H)
  have A4:=aa.mk qo;clear qo;obtain rfl:=cN H
  go_enter Try.func111,Try.ntmps111
  go_wp2_with (first|((with_reducible refine aA (N:=1) rfl ?_);refine aC ?hg (N:=1) ?hd (cs:= #[.int .u8 aU,.int .u8 bh,.int .u16 bn,.int .u32 bu,.slice fI cn.length fJ]) (t:=101) ?hr ?_;(case hd=>rfl);(case hg=>rfl);(case hr=>first|(go_simp;done)|(go_simp;rfl));intro qN hg w5 bJ hb;have aH:=aa.mk (au (bz HB) hb);have aK:=aa.mk (bJ);have bt:=aa.mk ((by rw [hg];exact (af (bz HB)):w.heap.size<=qN));have cC:=aa.mk ((by rw [hg];exact (af (bz HB)):w.heap.size<=qN));clear HB;have HB:=aH;have kO:=aK;have Ag3:=bt;have Ag4:=cC;clear aH aK bt cC;clear hb bJ hg;have Gv:w5.cell? ⟨qN,0,none⟩=some (.int .u8 aU):=cz kO.out 0 rfl;have Gw:w5.cell? ⟨qN,1,none⟩=some (.int .u8 bh):=cz kO.out 1 rfl;have Gx:w5.cell? ⟨qN,2,none⟩=some (.int .u16 bn):=cz kO.out 2 rfl;have Gy:w5.cell? ⟨qN,3,none⟩=some (.int .u32 bu):=cz kO.out 3 rfl;have SA:w5.cell? ⟨qN,4,none⟩=some (.slice fI cn.length fJ):=cz kO.out 4 rfl;have Gz:=ae kO.out 0;have GA:=ae kO.out 1;have GD:=ae kO.out 2;have GF:=ae kO.out 3;have SB:=ae kO.out 4)|((with_reducible refine az (f:=112) rfl ?_);refine gL 8 Try.func112 #[.agg #[.int .u8 aU,.int .u8 bh,.int .u16 0,.int .u32 bu,.slice fI cn.length fJ]] ?_;(with_reducible refine (iE.calls aU bh 0 bu _ _ cn Wb L8 _ ?aE ?aG A2.out).mono ?_);(case aE=>exact Kd.aW oq.out (bz HB));(case aG=>exact oY.out);rintro e w7 ⟨Aph,rfl,gC,hb⟩;refine ⟨_,rfl, ?_⟩;have aH:=aa.mk (Kd.bP gC (af (bz HB)));have aK:=aa.mk (bq (g:=qN) (o:= .cells #[.int .u8 aU,.int .u8 bh,.int .u16 0,.int .u32 bu,.slice fI cn.length fJ] 101 (0,0)) (by (with_reducible repeat (first|refine aQ ?_ _|refine aJ ?_|refine aM ?_ _));refine bK (cs:= #[.int .u8 aU,.int .u8 bh,.int .u16 bn,.int .u32 bu,.slice fI cn.length fJ]) ?_ 2 _ rfl;(with_reducible repeat (first|refine aQ ?_ _|refine aJ ?_|refine aM ?_ _));exact kO.out) hb);have bt:=aa.mk (au (bz HB) hb);clear kO;clear HB;have DP:=aH;have kO:=aK;have HB:=bt;clear aH aK bt;(try clear hb);(try clear hb2);(try clear hk);(try clear hi);(try clear gC);obtain ⟨Ao8,co8,eo8⟩:=Kd.dn DP.out;subst eo8)|((with_reducible refine az (f:=90) rfl ?_);refine gL 14 Try.func90 #[.slice Ao8 Wb.length co8] ?_;(with_reducible refine (mK.calls k _ _ Wb SS _ ?aE ?aG A4.out).mono ?_);(case aE=>repeat (first|exact (Kd.ay DP.out).2.2|(with_reducible refine Kd.fH ?_ _)|(with_reducible refine Kd.fz ?_ _)|(with_reducible refine Kd.gQ ?_)));(case aG=>exact (Kd.ay DP.out).2.1);rintro e w9 ⟨rfl,hb⟩;refine ⟨_,rfl, ?_⟩;have aH:=aa.mk (Kd.fX (Kd.rz DP) hb);have aK:=aa.mk (bq (kz kO) hb);have bt:=aa.mk (au (bz HB) hb);clear DP;clear kO;clear HB;have DP:=aH;have kO:=aK;have HB:=bt;clear aH aK bt;(try clear hb);(try clear hb2);(try clear hk);(try clear hi)))
  go_ret
  exact ⟨by first|rfl|(simp [aj,ak]<;>rfl)|(simp [*,aj,ak]<;>rfl),bz HB⟩
 rw [av c3] at H
 have oJ:(L8==0)=false:=fq c3;have qI:(L8 !=0)=true:=lf c3;obtain rfl:=cN H
 go_enter Try.func111,Try.ntmps111
 go_wp2_with (first|((with_reducible refine aA (N:=1) rfl ?_);refine aC ?hg (N:=1) ?hd (cs:= #[.int .u8 aU,.int .u8 bh,.int .u16 bn,.int .u32 bu,.slice fI cn.length fJ]) (t:=101) ?hr ?_;(case hd=>rfl);(case hg=>rfl);(case hr=>first|(go_simp;done)|(go_simp;rfl));intro qN hg ku bJ hb;have aH:=aa.mk (au (bz HB) hb);have aK:=aa.mk (bJ);have bt:=aa.mk ((by rw [hg];exact (af (bz HB)):w.heap.size<=qN));have cC:=aa.mk ((by rw [hg];exact (af (bz HB)):w.heap.size<=qN));clear HB;have HB:=aH;have kO:=aK;have Ag3:=bt;have Ag4:=cC;clear aH aK bt cC;clear hb bJ hg;have xT:ku.cell? ⟨qN,0,none⟩=some (.int .u8 aU):=cz kO.out 0 rfl;have xU:ku.cell? ⟨qN,1,none⟩=some (.int .u8 bh):=cz kO.out 1 rfl;have xV:ku.cell? ⟨qN,2,none⟩=some (.int .u16 bn):=cz kO.out 2 rfl;have xW:ku.cell? ⟨qN,3,none⟩=some (.int .u32 bu):=cz kO.out 3 rfl;have GX:ku.cell? ⟨qN,4,none⟩=some (.slice fI cn.length fJ):=cz kO.out 4 rfl;have xX:=ae kO.out 0;have xY:=ae kO.out 1;have xZ:=ae kO.out 2;have yc:=ae kO.out 3;have GY:=ae kO.out 4)|((with_reducible refine az (f:=112) rfl ?_);refine gL 8 Try.func112 #[.agg #[.int .u8 aU,.int .u8 bh,.int .u16 0,.int .u32 bu,.slice fI cn.length fJ]] ?_;(with_reducible refine (iE.calls aU bh 0 bu _ _ cn Wb L8 _ ?aE ?aG A2.out).mono ?_);(case aE=>exact Kd.aW oq.out (bz HB));(case aG=>exact oY.out);rintro e nP ⟨Aph,rfl,gC,hb⟩;refine ⟨_,rfl, ?_⟩;have aH:=aa.mk (Kd.bP gC (af (bz HB)));have aK:=aa.mk (bq (g:=qN) (o:= .cells #[.int .u8 aU,.int .u8 bh,.int .u16 0,.int .u32 bu,.slice fI cn.length fJ] 101 (0,0)) (by (with_reducible repeat (first|refine aQ ?_ _|refine aJ ?_|refine aM ?_ _));refine bK (cs:= #[.int .u8 aU,.int .u8 bh,.int .u16 bn,.int .u32 bu,.slice fI cn.length fJ]) ?_ 2 _ rfl;(with_reducible repeat (first|refine aQ ?_ _|refine aJ ?_|refine aM ?_ _));exact kO.out) hb);have bt:=aa.mk (au (bz HB) hb);clear kO;clear HB;have DP:=aH;have kO:=aK;have HB:=bt;clear aH aK bt;(try clear hb);(try clear hb2);(try clear hk);(try clear hi);(try clear gC)))
 go_ret
 exact ⟨by first|rfl|(simp [aj,ak]<;>rfl)|(simp [*,aj,ak]<;>rfl),bz HB⟩
def fQ.f (l0:List Int):Option (List Int×Int):=if 2<=(l0.length:Int) then ((cH.f (l0.drop 2)).bind fun vJ=>(if 0<=vJ then (if vJ<=(l0.length:Int) then ((cA.f (l0.take (vJ:Int).toNat)).bind fun SU=>(if 0<(l0.length:Int) then (some (SU,wrap64 (4*(wrap64 (Go.bits .and .u8 (rd l0 0) 15))))) else (none))) else (none)) else (none))) else (none)
def fQ.T1:Bool×List (List Nat×List Nat):=(true,[([],[]),([],[]),([1],[1]),([2],[2]),([0,3],[0,3]),([4,3],[4]),([],[]),([6],[6]),([7],[7]),([8],[8]),([9],[9]),([10],[10]),([5,5,0,1,2,3,4,5],[5]),([11,12,0,1,2,3,4,5,6,7,8,9,10,11,12],[11])])
def fQ.B1:List Nat:=[0,0,2,6,15,31,0,64,192,448,960,1984,63,8191]
theorem fQ.Aa5:gB .any (opsOf Try.f77 1)=fQ.T1:=by kernel_rfl
theorem fQ.Rx:cS fQ.T1.2 fQ.B1=true:=by kernel_rfl
theorem fQ.calls (A0:Option Addr) (c0:Nat) (l0:List Int) (r1:List Int) (r2:Int) (w:World) (hr0:Kd.C (Kd.int .u8) w A0 l0.length l0) (hc0:l0.length<=c0) (h:fQ.f l0=some (r1,r2)):
  Calls Try.prog 77 #[.slice A0 l0.length c0] w fun e w'=>∃ oW:Value,e= .returned (.tuple #[oW,.int .i64 r2]) /\ Kd.R (Kd.int .u8) 5 w' w.heap.size (fun _=>True) oW r1 /\ Below w.heap.size w w':=by
 have gj:=aa.mk hr0;have jx:=aa.mk hc0;clear hr0 hc0;have HB:=gI w;have H:(if 2<=(l0.length:Int) then ((cH.f (l0.drop 2)).bind fun vJ=>(if 0<=vJ then (if vJ<=(l0.length:Int) then ((cA.f (l0.take (vJ:Int).toNat)).bind fun SU=>(if 0<(l0.length:Int) then (some (SU,wrap64 (4*(wrap64 (Go.bits .and .u8 (rd l0 0) 15))))) else (none))) else (none)) else (none))) else (none))=some (r1,r2):=h;clear h
 by_cases c2:2<=(l0.length:Int)
 rotate_left
 ·rw [av c2] at H
  cases H
 rw [aq c2] at H
 have j4:=eq_true c2;have mq:decide (2<=(l0.length:Int))=true:=bN c2;clear c2;replace H:=dc H;obtain ⟨vJ,wK,H⟩:=H
 (try dsimp -simprocs only at H)
 have A3:=aa.mk wK;clear wK
 by_cases c4:0<=vJ
 rotate_left
 ·rw [av c4] at H
  cases H
 rw [aq c4] at H
 have mw:=eq_true c4;have yh:decide (0<=vJ)=true:=bN c4;clear c4
 by_cases c5:vJ<=(l0.length:Int)
 rotate_left
 ·rw [av c5] at H
  cases H
 rw [aq c5] at H
 have mJ:=eq_true c5;have qn:decide (vJ<=(l0.length:Int))=true:=bN c5;clear c5;replace H:=dc H;obtain ⟨SU,wD,H⟩:=H
 (try dsimp -simprocs only at H)
 have A6:=aa.mk wD;clear wD
 by_cases c7:0<(l0.length:Int)
 rotate_left
 ·rw [av c7] at H
  cases H
 rw [aq c7] at H
 have AV:decide (0<(l0.length:Int))=true:=bN c7;have VH:decide (0<l0.length)=true:=bN (by omega);clear c7;simp only [Option.some.injEq,Prod.mk.injEq] at H
 obtain ⟨rfl,rfl⟩:=H
 go_enter Try.func77,Try.ntmps77
 try go_wp2
 have aH:=aa.mk (bf HB.out);clear HB;have HB:=aH;clear aH;obtain ⟨i09,Rg,_,Rh,_⟩:=info_parts fY;obtain ⟨A9,AeZ,hA9,hC9⟩:=fS (P:=Try.prog) (Value.int .u8) 0 23 5 .i64 Try.underlying23 Rg Rh A0 c0 l0 2 (by omega) gA jx.out;have Y1:=aa.mk (Kd.dH (h1:=fun _=>rfl) (hA9 _ (Kd.dw gj.out)));have Ag5:=aa.mk hC9;clear hA9 hC9 Rg Rh;have Acu:0<=(0:Int):=(by omega)
 have Acv:0<(l0.length:Int):=gA;obtain ⟨SV,Api,vK⟩:=Kd.dG gj.out 0 Acu Acv;have rT:=vK
 (try rw [show ((0:Int)).toNat=0 from rfl] at rT)
 (try rw [show 0*1=0 from rfl] at rT)
 (try rw [Addr.add_zero'] at rT)
 cases Api
 have As8:(0<l0.length)=True:=eq_true (by omega)
 (try rw [show ((0:Int)).toNat=0 from rfl] at vK)
 (try rw [Addr.add_zero'] at vK)
 replace vK:=(HB.out.cell (dF w _ vK)).trans vK;replace Acu:=eq_true Acu;replace Acv:=eq_true Acv;refine dB (n:=14) (S:=fun w'=>w'.cell? SV=some (.int .u8 (rd l0 0))) (ds:=[]) #[false,false,false,false,false,false,false,false,false,false,false,false,false,false] (by kernel_rfl) rfl rfl (((HB.out.cell (dF w _ rT)).trans rT)) (fun hHeld=> ?_);refine bF fQ.Aa5 fQ.Rx (fun ax eu=> ?_);generalize w.drew=w8 at HB Y1 vK hHeld|-
 refine pz 0 4 ax ?_;refine pz 1 5 ax ?_;refine pz 2 6 ax ?_;refine pz 6 10 ax ?_;refine pz 7 11 ax ?_;refine tz 8 12 ax eu hHeld ?_;refine pz 9 13 ax ?_;refine pz 10 14 ax ?_;refine pz 11 15 ax ?_;refine oz 3 (some 7) ax (fun K hK=> ?_);refine i9 Try.func87 (by kernel_rfl) rfl #[.slice A9 (l0.drop 2).length (c0 - 2)] (by rfl) rfl rfl (by (try simp only [List.map_toArray,List.map_cons,List.map_nil]);first|done|(rw [show (l0.drop 2).length=(l0.length - 2) from List.length_drop]<;>rfl)|rfl|(simp only [List.length_drop,List.length_take];rfl)|(go_simp;done)|(simp [Act.eval,IntKind.signed];done)|(simp [Act.eval,IntKind.signed];rfl)) ?_
 with_reducible refine (cH.calls _ _ (l0.drop 2) vJ _ ?aE ?aG A3.out).mono ?_
 (case aE=>exact Kd.aW Y1.out (bz HB))
 (case aG=>exact Ag5.out)
 rintro e w' ⟨rfl,⟨nd,rfl⟩⟩;refine ⟨_,rfl, ?_⟩;obtain ⟨Awd,Y2,_,Y3,_⟩:=info_parts fY;obtain ⟨Apj,Ag6,Ag7⟩:=ow (P:=Try.prog) (Value.int .u8) 0 23 5 .u16 Try.underlying23 Y2 Y3 (some SV) c0 l0 vJ gA gA jx.out;have Ag8:=aa.mk (Kd.dH (h1:=fun _=>rfl) (Ag6 _ (Kd.dw gj.out)));have Ag9:=aa.mk Ag7;clear Ag6 Ag7 Y2 Y3;refine hK.out _ _ (((HB.out.cell (dF w _ rT)).trans rT)) (fun hHeld=> ?_);clear hK K;refine nz 7 ?_;refine pz 4 8 ax ?_;refine oz 5 (some 9) ax (fun K hK=> ?_)
 refine i9 Try.func97 (by kernel_rfl) rfl #[.slice (some SV) (l0.take (vJ:Int).toNat).length c0] (by rfl) rfl rfl (by (try simp only [List.map_toArray,List.map_cons,List.map_nil]);first|done|(rw [show (l0.take (vJ:Int).toNat).length=vJ.toNat from (by rw [List.length_take];have h_:(vJ:Int)<=(l0.length:Int):=gA;omega)]<;>rfl)|rfl|(simp only [List.length_drop,List.length_take];rfl)|(go_simp;done)|(simp [Act.eval,IntKind.signed];done)|(simp [Act.eval,IntKind.signed];rfl)) ?_
 with_reducible refine (cA.calls _ _ (l0.take (vJ:Int).toNat) SU _ ?aE ?aG A6.out).mono ?_
 (case aE=>exact Kd.aW Ag8.out (bz HB))
 (case aG=>exact Ag9.out)
 rintro e sn ⟨Awe,rfl,gC,hb⟩;refine ⟨_,rfl, ?_⟩;have aH:=aa.mk (Kd.bP gC (af (bz HB)));have aK:=aa.mk (au (bz HB) hb);clear HB;have Aha:=aH;have HB:=aK;clear aH aK
 (try clear hb)
 (try clear hb2)
 (try clear hk)
 (try clear hi)
 (try clear gC)
 refine hK.out _ _ (((HB.out.cell (dF w _ rT)).trans rT)) (fun hHeld=> ?_);clear hK K;refine nz 9 ?_;refine pz 12 2 ax ?_;refine pz 13 3 ax ?_;refine dz ax ?_
 try go_wp2
 go_ret2
 exact ⟨_,by first|rfl|(simp [aj,ak]<;>rfl)|(simp [*,aj,ak]<;>rfl),by (with_reducible repeat (first|apply Kd.fg|apply Kd.eV|apply Kd.fj));exact Aha.out,bz HB⟩
def qv.f (k:Nat) (a0:Int) (a1:Int) (a2:Int):Option (Int):=(dU.f k ((Go.bits .xor .u16 IntKind.u16.max a0+(Go.bits .xor .u16 IntKind.u16.max a1)+(a2)) % 4294967296)).bind fun SW=>(some (Go.bits .xor .u16 IntKind.u16.max SW))
theorem qv.calls (k:Nat) (a0:Int) (a1:Int) (a2:Int) (r:Int) (w:World) (h:qv.f k a0 a1 a2=some r):
  Calls Try.prog 88 #[.int .u16 a0,.int .u16 a1,.int .u16 a2] w fun e w'=>e= .returned (.int .u16 r) /\ bB w w':=by
 have zQ:IntKind.u16.signed=false:=rfl;have H:((dU.f k ((Go.bits .xor .u16 IntKind.u16.max a0+(Go.bits .xor .u16 IntKind.u16.max a1)+(a2)) % 4294967296)).bind fun SW=>(some (Go.bits .xor .u16 IntKind.u16.max SW)))=some r:=h;clear h;replace H:=dc H;obtain ⟨SW,qo,H⟩:=H
 (try dsimp -simprocs only at H)
 have A4:=aa.mk qo;clear qo;obtain rfl:=cN H
 go_enter Try.func88,Try.ntmps88
 go_wp2_with (first|((with_reducible refine az (f:=115) rfl ?_);refine gL 17 Try.func115 #[.int .u32 ((Go.bits .xor .u16 IntKind.u16.max a0+(Go.bits .xor .u16 IntKind.u16.max a1)+(a2)) % 4294967296)] ?_;(with_reducible refine (dU.calls k ((Go.bits .xor .u16 IntKind.u16.max a0+(Go.bits .xor .u16 IntKind.u16.max a1)+(a2)) % 4294967296) SW _ A4.out).mono ?_);rintro e w' ⟨rfl,⟨nd,rfl⟩⟩;refine ⟨_,rfl, ?_⟩))
 go_ret
 exact ⟨by first|rfl|(simp;done)|(simp [*];done),by repeat (first|exact bB.refl _|apply bB.step)⟩
attribute [local go_sem] sB
attribute [local go_sem] sC
attribute [local go_sem] sD
attribute [local go_sem] sE
attribute [local go_sem] sG
attribute [local go_sem] sH
attribute [local go_sem] sI
attribute [local go_sem] sJ
attribute [local go_sem] sK
attribute [local go_sem] sL
attribute [local go_sem] sM
attribute [local go_sem] sN
theorem RB.Cs {w w1:World} {base:Nat} {v:Value} {x:RB} (h:x.V w base v) (hb:Below w.heap.size w w1):x.V w1 base v:=by
 cases x with
 |no=>exact h
 |udp=>obtain ⟨v3,e,h3⟩:=h;exact ⟨v3,e,Kd.fX h3 hb⟩
 |tcp=>obtain ⟨v8,v9,e,h8,h9⟩:=h;exact ⟨v8,v9,e,Kd.fX h8 hb,Kd.fX h9 hb⟩
 |zg=>obtain ⟨v4,e,h4⟩:=h;exact ⟨v4,e,Kd.fX h4 hb⟩
theorem RB.Ahb {W w1:World} {base:Nat} {v:Value} {x:RB} {g t:Nat} {ds:Array Value} (h:j7 W w1 g) (hx:x.V W base v) (hg:W.heap[g]?=some (.cells ds t (0,0))) (ht:5≠t):x.V w1 base v:=by
 cases x with
 |no=>exact hx
 |udp=>obtain ⟨v3,e,h3⟩:=hx;exact ⟨v3,e,j7.R h h3 hg ht⟩
 |tcp=>obtain ⟨v8,v9,e,h8,h9⟩:=hx;exact ⟨v8,v9,e,j7.R h h8 hg ht,j7.R h h9 hg ht⟩
 |zg=>obtain ⟨v4,e,h4⟩:=hx;exact ⟨v4,e,j7.R h h4 hg ht⟩
theorem mV {w w1:World} {base:Nat} {v:Value} {x:RB} (h:aa (x.V w base v)) (hb:Below w.heap.size w w1):aa (x.V w1 base v):=⟨RB.Cs h.out hb⟩
theorem oV {W w1:World} {base:Nat} {v:Value} {x:RB} {g t:Nat} {ds:Array Value} (o:j7 W w1 g) (h:aa (x.V W base v)) (hg:aa (W.heap[g]?=some (.cells ds t (0,0)))) (ht:5≠t):aa (x.V w1 base v):=⟨RB.Ahb o h.out hg.out ht⟩
def pointed.f (k:Nat) (si sp di dp:Int):RB ->Option (List Int)
 | .no=>none
 | .udp _ _ uc ub=>if uc=0 then (nV.f sp dp uc ub).bind fun r=>some r.1 else (V9.f k si di sp dp uc ub).bind fun c=>(nV.f sp dp c ub).bind fun r=>some r.1
 | .tcp _ _ tq ta tf tw tc tu tJ tb=>(Wa.f k si di sp dp tq ta tf tw tc tu tJ tb).bind fun c=>(fe.f k sp dp tq ta tf tw c tu tJ tb).bind fun r=>some r.1
 | .zg mt mc ms mr mb=>(kA.f mt mc ms mr mb).bind fun ec=>if ec=true then (uF.f k mt mc ms (Go.bits .or .u32 (Go.bits .and .u32 mr 65535) (sp % 4294967296*65536 % 4294967296)) mb).bind fun c=>(iE.f mt mc c (Go.bits .or .u32 (Go.bits .and .u32 mr 65535) (sp % 4294967296*65536 % 4294967296)) mb).bind fun r=>some r.1
  else (uF.f k mt mc ms mr mb).bind fun c=>(iE.f mt mc c mr mb).bind fun r=>some r.1
def pointed.SX.T:Bool×List (List Nat×List Nat):=(true,[([],[]),([0],[0]),([],[]),([2],[2]),([0,1],[]),([4,1,0,1],[1,4]),([0,1,2,3,4,5],[]),([6,3,5,0,1,2,3,4,5],[3,6])])
theorem pointed.SX.tab:gB .any (opsOf Try.f70 10)=pointed.SX.T:=by kernel_rfl
theorem pointed.SX.bits:cS pointed.SX.T.2 [0,1,0,4,3,19,63,127]=true:=by kernel_rfl
def pointed.Ce.T:Bool×List (List Nat×List Nat):=(true,[([],[]),([0],[0]),([],[]),([2],[2]),([0,1],[]),([4,1,0,1],[1,4]),([0,1,2,3,4,5],[]),([6,3,5,0,1,2,3,4,5],[3,6])])
theorem pointed.Ce.tab:gB .any (opsOf Try.f70 16)=pointed.Ce.T:=by kernel_rfl
theorem pointed.Ce.bits:cS pointed.Ce.T.2 [0,1,0,4,3,19,63,127]=true:=by kernel_rfl
attribute [local go_sem] sB
attribute [local go_sem] sC
attribute [local go_sem] sD
attribute [local go_sem] sE
attribute [local go_sem] sG
attribute [local go_sem] sH
attribute [local go_sem] sI
attribute [local go_sem] sJ
attribute [local go_sem] sK
attribute [local go_sem] sL
attribute [local go_sem] sM
attribute [local go_sem] sN
def Pr.R2.T:Bool×List (List Nat×List Nat):=(true,[([],[]),([],[]),([],[]),([0,0],[0]),([1,3,0,1,3],[1]),([2,4,0,1,2,3,4],[2])])
theorem Pr.R2.tab:gB .any (opsOf Try.f36 2)=Pr.R2.T:=by kernel_rfl
theorem Pr.R2.bits:cS Pr.R2.T.2 [0,0,0,1,11,31]=true:=by kernel_rfl
def LK.Told (r:LK) (base:Nat) (w0:World) (e:Ending) (w':World):Prop:=
 ∃ v8 v9 vi:Value,e= .returned (.tuple #[.agg #[.int .u8 r.a,.int .u8 r.t,.int .u8 r.pr,.int .u16 r.i,.int .u8 r.fl,.int .u16 r.cr,.int .u32 r.s,.int .u32 r.d,v8,v9],.agg #[.int .u8 r.pr,.int .u32 r.s,.int .u16 r.sp,.int .u32 r.d,.int .u16 r.dp,.int .u8 r.ff,vi],.int .i64 r.e]) /\ Kd.R (Kd.int .u8) 5 w' base (fun _=>True) v8 r.o /\ Kd.R (Kd.int .u8) 5 w' base (fun _=>True) v9 r.b /\ Kd.R Fx 65 w' base (fun _=>True) vi r.qD /\ Below base w0 w'
theorem vL.via (A:Option Addr) (c:Nat) (l:List Int) (r:LK) (w:World) (hC:Kd.C (Kd.int .u8) w A l.length l) (hL:l.length<=c) (Y4:∀ w2:World,Kd.C (Kd.int .u8) w2 A l.length l ->Calls Try.prog 69 #[.slice A l.length c] w2 fun e w'=>r.Post w2.heap.size w2 e w'):
  Calls Try.prog 36 #[.slice A l.length c] w fun e w'=>r.Told w.heap.size w e w':=by
 have mM:=Try.underlying65;have iW:=Try.underlying73;have mY:=Try.underlying76;obtain ⟨a,t,pr,i,fl,cr,s,d,o,b,x,sp,dp,ff,qD,e_⟩:=r;have HB:=gI w;have HC:=aa.mk hC;have HL:=aa.mk hL;have HP:=aa.mk Y4;have iM:aa ((Try.prog.info? 65).map (·.size)=some 2):=⟨by kernel_rfl⟩
 have eN:aa ((Try.prog.info? 73).map (·.size)=some 10):=⟨by kernel_rfl⟩
 have iF:aa ((Try.prog.info? 76).map (·.size)=some 7):=⟨by kernel_rfl⟩
 clear hC hL Y4
 go_enter Try.func36,Try.ntmps36
 go_upto_region 1 with (first|((with_reducible refine aA (N:=2) rfl ?_);refine aC ?fT (N:=2) ?iB (cs:=jL) (t:=73) ?eY ?_;(case iB=>rfl);(case fT=>rfl);(case eY=>first|(go_simp;done)|(go_simp;rfl));intro gr bV w1 bw cB;have Apk:=aa.mk (show w.heap.size<=gr by rw [bV];exact af HB.out);have BK:=aa.mk bw;have ai:=cB;replace HB:=mB HB ai;clear ai;clear bV bw cB)|((with_reducible refine aA (N:=3) rfl ?_);refine aC ?fT (N:=3) ?iB (cs:=lN) (t:=76) ?eY ?_;(case iB=>rfl);(case fT=>rfl);(case eY=>first|(go_simp;done)|(go_simp;rfl));intro gq bV w2 bw cB;have mN:=aa.mk (show w.heap.size<=gq by rw [bV];exact af HB.out);have br:=aa.mk bw;have ai:=cB;replace HB:=mB HB ai;replace BK:=mX BK ai;clear ai;clear bV bw cB))
 go_wp2_with fail
 refine (HP.out _ (Kd.aW HC.out HB.out)).mono ?_;rintro ev w3 hpost;obtain ⟨vo,vb,vx,vi,rfl,ho,qd,hx,hi,hb⟩:=hpost;dsimp only at ho qd hx hi
 have bL:=lO ho HB;obtain ⟨Ao,co,rfl,_,_⟩:=Kd.cj ho;clear ho;have bI:=lO qd HB;obtain ⟨Ab,cb,rfl,_,_⟩:=Kd.cj qd;clear qd;have kP:=aa.mk (Kd.bP hi (af HB.out));obtain ⟨Ai,ci,rfl,_,_⟩:=Kd.cj hi;clear hi;clear hx;have ai:=hb;replace HB:=mB HB ai;replace BK:=mX BK ai;replace br:=mX br ai;clear ai;clear hb HP
 (try dsimp only)
 go_upto_region 2 with (first|((with_reducible refine aA (N:=5) rfl ?_);refine aC ?fT (N:=5) ?iB (cs:=jL) (t:=73) ?eY ?_;(case iB=>rfl);(case fT=>rfl);(case eY=>first|(go_simp;done)|(go_simp;rfl));intro gp bV w4 bw cB;have lV:=aa.mk (show w.heap.size<=gp by rw [bV];exact af HB.out);have aZ:=aa.mk bw;have DQ:aa (gr≠gp):=⟨by rw [bV];exact (cW BK).out⟩;have ai:=cB;replace HB:=mB HB ai;replace BK:=mX BK ai;replace br:=mX br ai;replace bL:=mR bL ai;replace bI:=mR bI ai;replace kP:=mI kP ai;clear ai;clear bV bw cB)|((with_reducible refine aA (N:=7) rfl ?_);refine aC ?fT (N:=7) ?iB (cs:=lN) (t:=76) ?eY ?_;(case iB=>rfl);(case fT=>rfl);(case eY=>first|(go_simp;done)|(go_simp;rfl));intro gf bV w5 bw cB;have mO:=aa.mk (show w.heap.size<=gf by rw [bV];exact af HB.out);have bS:=aa.mk bw;have bY:aa (gq≠gf):=⟨by rw [bV];exact (cW br).out⟩;have ai:=cB;replace HB:=mB HB ai;replace BK:=mX BK ai;replace br:=mX br ai;replace bL:=mR bL ai;replace bI:=mR bI ai;replace kP:=mI kP ai;replace aZ:=mX aZ ai;clear ai;clear bV bw cB)|((refine dh rfl rfl rfl rfl rfl aZ.out eN.out rfl (by simp [Value.oneCell']) ?_);intro w6 hs_ ag;replace BK:=oN ag BK DQ;replace br:=oX ag br aZ (by decide);replace bL:=oR ag bL aZ (by decide);replace bI:=oR ag bI aZ (by decide);replace kP:=oI ag kP aZ (by decide);replace bS:=oX ag bS aZ (by decide);replace HB:=oB ag HB lV;clear ag;replace aZ:=aa.mk hs_;clear hs_)|((refine dh rfl rfl rfl rfl rfl bS.out iF.out rfl (by simp [Value.oneCell']) ?_);intro w7 hs_ ag;replace BK:=oX ag BK bS (by decide);replace br:=oN ag br bY;replace bL:=oR ag bL bS (by decide);replace bI:=oR ag bI bS (by decide);replace kP:=oI ag kP bS (by decide);replace aZ:=oX ag aZ bS (by decide);replace HB:=oB ag HB mO;clear ag;replace bS:=aa.mk hs_;clear hs_))
 refine dB (n:=6) (S:=fun w'=>w'.heap[gp]?=some (.cells #[.int .u8 a,.int .u8 t,.int .u8 pr,.int .u16 i,.int .u8 fl,.int .u16 cr,.int .u32 s,.int .u32 d,.slice Ao o.length co,.slice Ab b.length cb] 73 (0,0)) /\ w'.heap[gf]?=some (.cells #[.int .u8 pr,.int .u32 s,.int .u16 sp,.int .u32 d,.int .u16 dp,.int .u8 ff,.slice Ai qD.length ci] 76 (0,0))) (ds:=[]) #[false,false,false,false,false,false] (by kernel_rfl) rfl rfl ⟨aZ.out,bS.out⟩ (fun hHeld=> ?_);refine bF Pr.R2.tab Pr.R2.bits (fun ax eu=> ?_);have ai:=bf (Below.refl w7.heap.size w7);replace HB:=mB HB ai;replace BK:=mX BK ai;replace br:=mX br ai;replace bL:=mR bL ai;replace bI:=mR bI ai;replace kP:=mI kP ai;replace aZ:=mX aZ ai;replace bS:=mX bS ai;clear ai
 generalize w7.drew=w8 at HB BK br bL bI kP aZ bS hHeld|-
 refine pz 2 18 ax ?_;refine tv 0 16 (.agg #[.int .u8 a,.int .u8 t,.int .u8 pr,.int .u16 i,.int .u8 fl,.int .u16 cr,.int .u32 s,.int .u32 d,.slice Ao o.length co,.slice Ab b.length cb]) ax eu hHeld ?_ ?_
 ·intro w' s0
  obtain ⟨s0,s1⟩:=s0;exact bM (p:= .tmp 5) (ty:=73) (by rfl) (by rfl) s0 iW (by rfl) eN.out
 refine nz 16 ?_;refine tv 1 17 (.agg #[.int .u8 pr,.int .u32 s,.int .u16 sp,.int .u32 d,.int .u16 dp,.int .u8 ff,.slice Ai qD.length ci]) ax eu hHeld ?_ ?_
 ·intro w' s0
  obtain ⟨s0,s1⟩:=s0;exact bM (p:= .tmp 7) (ty:=76) (by rfl) (by rfl) s1 mY (by rfl) iF.out
 refine nz 17 ?_;refine oz 3 (none) ax (fun K hK=> ?_);refine cZ (by rfl) (by rfl) rfl rfl rfl BK.out eN.out rfl (by simp [Value.oneCell']) ?_;intro w9 hs_ ag;replace br:=oX ag br BK (by decide);replace bL:=oR ag bL BK (by decide);replace bI:=oR ag bI BK (by decide);replace kP:=oI ag kP BK (by decide);replace aZ:=oN ag aZ (cg DQ);replace bS:=oX ag bS BK (by decide);replace HB:=oB ag HB Apk;clear ag;replace BK:=aa.mk hs_;clear hs_;refine hK.out _ _ ⟨aZ.out,bS.out⟩ (fun hHeld=> ?_);clear hK K;refine oz 4 (none) ax (fun K hK=> ?_);refine cZ (by rfl) (by rfl) rfl rfl rfl br.out iF.out rfl (by simp [Value.oneCell']) ?_;intro ku hs_ ag;replace BK:=oX ag BK br (by decide);replace bL:=oR ag bL br (by decide);replace bI:=oR ag bI br (by decide)
 replace kP:=oI ag kP br (by decide);replace aZ:=oX ag aZ br (by decide);replace bS:=oN ag bS (cg bY);replace HB:=oB ag HB mN;clear ag;replace br:=aa.mk hs_;clear hs_;refine hK.out _ _ ⟨aZ.out,bS.out⟩ (fun hHeld=> ?_);clear hK K;refine pz 5 4 ax ?_;refine dz ax ?_;clear ax eu hHeld
 (try dsimp only)
 go_wp2
 (try simp only [Exit.inBlock,Exit.then])
 refine bodyPost_ret (iq rfl _ _ _ _ _ _ _ _ (0,0) (0,0) _ _ rfl BK.out iW rfl eN.out rfl br.out mY rfl iF.out) rfl ?_;exact ⟨_,_,_,rfl,bL.out,bI.out,kP.out,HB.out⟩
attribute [local go_sem] sB
attribute [local go_sem] sC
attribute [local go_sem] sD
attribute [local go_sem] sE
attribute [local go_sem] sG
attribute [local go_sem] sH
attribute [local go_sem] sI
attribute [local go_sem] sJ
attribute [local go_sem] sK
attribute [local go_sem] sL
attribute [local go_sem] sM
attribute [local go_sem] sN
theorem look.G0 (k:Nat) (A:Option Addr) (c:Nat) (l:List Int) (a t i fl cr s d:Int) (o b:List Int) (r:LK) (w:World) (hC:Kd.C (Kd.int .u8) w A l.length l) (hL:l.length<=c) (hP:da.f k l=some (a,t,1,i,fl,cr,s,d,o,b,0)) (h:nH k a t i fl cr s d o b=some r):
  Calls Try.prog 69 #[.slice A l.length c] w fun e w'=>r.Post w.heap.size w e w':=by
 have iW:=Try.underlying73;have mY:=Try.underlying76;have zO:=Try.underlying83;have uC:=Try.underlying137;have oA:=Try.underlying101;have Js:=Try.underlying179;have JB:=Try.underlying181;have JH:=Try.underlying183;have HB:=gI w;have HC:=aa.mk hC;have HL:=aa.mk hL;have HP:=aa.mk hP;have HF:=aa.mk h;have eN:aa ((Try.prog.info? 73).map (·.size)=some 10):=⟨by kernel_rfl⟩
 have iF:aa ((Try.prog.info? 76).map (·.size)=some 7):=⟨by kernel_rfl⟩
 have yj:aa ((Try.prog.info? 83).map (·.size)=some 4):=⟨by kernel_rfl⟩
 have mz:aa ((Try.prog.info? 137).map (·.size)=some 10):=⟨by kernel_rfl⟩
 have jD:aa ((Try.prog.info? 101).map (·.size)=some 5):=⟨by kernel_rfl⟩
 have NH:aa ((Try.prog.info? 179).map (·.size)=some 4):=⟨by kernel_rfl⟩
 have NI:aa ((Try.prog.info? 181).map (·.size)=some 10):=⟨by kernel_rfl⟩
 have SY:aa ((Try.prog.info? 183).map (·.size)=some 5):=⟨by kernel_rfl⟩
 clear hC hL hP h
 go_enter Try.func69,Try.ntmps69
 go_upto_region 2 with (first|((with_reducible refine aA (N:=2) rfl ?_);refine aC ?fT (N:=2) ?iB (cs:=jL) (t:=73) ?eY ?_;(case iB=>rfl);(case fT=>rfl);(case eY=>first|(go_simp;done)|(go_simp;rfl));intro gi bV w1 bw cB;have kM:=aa.mk (show w.heap.size<=gi by rw [bV];exact af HB.out);have bg:=aa.mk bw;have ai:=cB;replace HB:=mB HB ai;clear ai;clear bV bw cB)|((with_reducible refine aA (N:=4) rfl ?_);refine aC ?fT (N:=4) ?iB (cs:=lN) (t:=76) ?eY ?_;(case iB=>rfl);(case fT=>rfl);(case eY=>first|(go_simp;done)|(go_simp;rfl));intro gq bV w2 bw cB;have mN:=aa.mk (show w.heap.size<=gq by rw [bV];exact af HB.out);have br:=aa.mk bw;have ai:=cB;replace HB:=mB HB ai;replace bg:=mX bg ai;clear ai;clear bV bw cB)|((refine fc rfl rfl rfl rfl rfl iF.out rfl (by simp [Value.oneCell']) ?_);intro fU gV dg))
 revert fU gV dg;intro w3 gV dg;have cX:aa (w3.heap[w2.heap.size]?=some (.cells lN 76 (0,0))):=⟨gV⟩
 have Cf:=yY HB;have fP:=cW br;have ai:=dg;replace HB:=mB HB ai;replace bg:=mX bg ai;replace br:=mX br ai;clear ai;clear gV dg;generalize w2.heap.size=gn at cX Cf fP|-
 go_wp2_with fail
 refine (da.calls k A c l a t 1 i fl cr s d o b 0 _ (Kd.aW HC.out HB.out) HL.out HP.out).mono ?_;rintro ev w4 ⟨vo,vb,rfl,ho,qd,hb⟩;have bL:=lO ho HB;obtain ⟨Ao,co,rfl,_,_⟩:=Kd.cj ho;clear ho;have bI:=lO qd HB;obtain ⟨Ab,cb,rfl,_,_⟩:=Kd.cj qd;clear qd;have ai:=hb;replace HB:=mB HB ai;replace bg:=mX bg ai;replace br:=mX br ai;replace cX:=mX cX ai;clear ai;clear hb HP HC HL
 (try dsimp only)
 go_upto_region 3 with (((refine fc rfl rfl rfl rfl rfl eN.out rfl (by simp [Value.oneCell']) ?_);intro fU gV dg))
 revert fU gV dg;intro w5 gV dg;have aZ:aa (w5.heap[w4.heap.size]?=some (.cells #[.int .u8 a,.int .u8 t,.int .u8 1,.int .u16 i,.int .u8 fl,.int .u16 cr,.int .u32 s,.int .u32 d,.slice Ao o.length co,.slice Ab b.length cb] 73 (0,0))):=⟨gV⟩
 have lV:=yY HB;have cu:=cW bg;have ai:=dg;replace HB:=mB HB ai;replace bg:=mX bg ai;replace br:=mX br ai;replace cX:=mX cX ai;replace bL:=mR bL ai;replace bI:=mR bI ai;clear ai;clear gV dg;generalize w4.heap.size=gp at aZ lV cu|-
 have H:nH k a t i fl cr s d o b=some r:=HF.out;clear HF;unfold nH at H
 obtain ⟨⟨mt,mc,ms,mr,mb,e2⟩,hp,H⟩:=bR H;dsimp only at H
 have HG:=aa.mk H;clear H;have Wc:((0:Int)==0)=true:=rfl;have he2:((0:Int) !=0)=false:=rfl
 (try dsimp only)
 go_wp2_with (refine Kd.bU rfl (bM rfl rfl aZ.out Try.underlying73 rfl eN.out) ?_)
 clear Wc he2;refine (oK.VI a t i fl cr s d Ao o.length co Ab cb b mt mc ms mr e2 mb _ (Kd.ay bI.out).2.2 (Kd.ay bI.out).2.1 hp).mono ?_;rintro ev w6 ⟨vmb,rfl,hmb,hb⟩;clear hp;have cG:=lO hmb HB;obtain ⟨DR,DS,rfl,_,_⟩:=Kd.cj hmb;clear hmb;have ai:=hb;replace HB:=mB HB ai;replace bg:=mX bg ai;replace br:=mX br ai;replace cX:=mX cX ai;replace bL:=mR bL ai;replace bI:=mR bI ai;replace aZ:=mX aZ ai;clear ai;clear hb;have H:=HG.out;clear HG
 by_cases ce:e2=0
 rotate_left
 ·have Ad:(e2==0)=false:=fq ce
  have G1:(e2 !=0)=true:=bne_iff_ne.2 ce;rw [av ce] at H
  clear ce;obtain rfl:=cN H
  (try dsimp only)
  go_upto_region 7 with (fail)
  refine dB (n:=7) (S:=fun w'=>w'.heap[gn]?=some (.cells lN 76 (0,0))) (ds:=[]) #[false,false,false,false,false,false,false] (by kernel_rfl) rfl rfl cX.out (fun hHeld=> ?_);refine bF look.R7.tab look.R7.bits (fun ax eu=> ?_);have ai:=bf (Below.refl w6.heap.size w6);replace HB:=mB HB ai;replace bg:=mX bg ai;replace br:=mX br ai;replace cX:=mX cX ai;replace bL:=mR bL ai;replace bI:=mR bI ai;replace aZ:=mX aZ ai;replace cG:=mR cG ai;clear ai;generalize w6.drew=w7 at HB bg br cX bL bI aZ cG hHeld|-
  refine pz 0 34 ax ?_;refine pz 2 36 ax ?_;refine tv 1 35 (.agg lN) ax eu hHeld ?_ ?_
  ·intro w' s0
   exact bM (p:= .tmp 6) (ty:=76) (by rfl) (by rfl) s0 mY (by rfl) iF.out
  refine nz 35 ?_;refine oz 3 (none) ax (fun K hK=> ?_);refine cZ (by rfl) (by rfl) rfl rfl rfl bg.out eN.out rfl (by simp [Value.oneCell']) ?_;intro w8 hs_ ag;replace br:=oX ag br bg (by decide);replace cX:=oX ag cX bg (by decide);replace bL:=oR ag bL bg (by decide);replace bI:=oR ag bI bg (by decide);replace aZ:=oN ag aZ (cg cu);replace cG:=oR ag cG bg (by decide);replace HB:=oB ag HB kM;clear ag;replace bg:=aa.mk hs_;clear hs_;refine hK.out _ _ cX.out (fun hHeld=> ?_);clear hK K;refine pz 4 3 ax ?_;refine oz 5 (none) ax (fun K hK=> ?_);refine cZ (by rfl) (by rfl) rfl rfl rfl br.out iF.out rfl (by simp [Value.oneCell']) ?_;intro w9 hs_ ag;replace bg:=oX ag bg br (by decide);replace cX:=oN ag cX (cg fP)
  replace bL:=oR ag bL br (by decide);replace bI:=oR ag bI br (by decide);replace aZ:=oX ag aZ br (by decide);replace cG:=oR ag cG br (by decide);replace HB:=oB ag HB mN;clear ag;replace br:=aa.mk hs_;clear hs_;refine hK.out _ _ cX.out (fun hHeld=> ?_);clear hK K;refine pz 6 5 ax ?_;refine dz ax ?_;clear ax eu hHeld
  (try dsimp only)
  go_wp2
  (try simp only [Exit.inBlock,Exit.then])
  refine bodyPost_ret (ia rfl _ _ _ _ _ _ _ _ (0,0) (0,0) _ _ rfl bg.out iW rfl eN.out rfl br.out mY rfl iF.out) rfl ?_;exact ⟨_,_,_,_,rfl,Kd.bX _ _ _ _ _,Kd.bX _ _ _ _ _,rfl,Kd.bX _ _ _ _ _,HB.out⟩
 have Ad:(e2==0)=true:=fF ce
 have G1:(e2 !=0)=false:=by rw [bne,Ad];rfl
 rw [aq ce] at H
 clear ce;obtain ⟨rt,hr,H⟩:=bR H;have HG:=aa.mk H;clear H
 (try dsimp only)
 go_wp2_with (refine Kd.bU rfl (bM rfl rfl aZ.out Try.underlying73 rfl eN.out) ?_)
 refine (kJ.calls k mt mc ms mr DR DS mb a t 1 i fl cr s d Ao co o Ab cb b rt _ (Kd.ay cG.out).2.2 (Kd.ay cG.out).2.1 (Kd.ay bL.out).2.2 (Kd.ay bL.out).2.1 (Kd.ay bI.out).2.2 (Kd.ay bI.out).2.1 (by unfold kJ.f;rw [hr];rfl)).mono ?_;rintro ev w7 ⟨rfl,hb⟩;clear hr;have ai:=hb;replace HB:=mB HB ai;replace bg:=mX bg ai;replace br:=mX br ai;replace cX:=mX cX ai;replace bL:=mR bL ai;replace bI:=mR bI ai;replace aZ:=mX aZ ai;replace cG:=mR cG ai;clear ai;clear hb;have H:=HG.out;clear HG
 cases rt with
 |false=>
  rw [av (by decide)] at H
  obtain rfl:=cN H
  (try dsimp only)
  go_upto_region 9 with (fail)
  refine dB (n:=6) (S:=fun w'=>w'.heap[gn]?=some (.cells lN 76 (0,0))) (ds:=[]) #[false,false,false,false,false,false] (by kernel_rfl) rfl rfl cX.out (fun hHeld=> ?_);refine bF look.R9.tab look.R9.bits (fun ax eu=> ?_);have ai:=bf (Below.refl w7.heap.size w7);replace HB:=mB HB ai;replace bg:=mX bg ai;replace br:=mX br ai;replace cX:=mX cX ai;replace bL:=mR bL ai;replace bI:=mR bI ai;replace aZ:=mX aZ ai;replace cG:=mR cG ai;clear ai;generalize w7.drew=w8 at HB bg br cX bL bI aZ cG hHeld|-
  refine pz 0 41 ax ?_;refine tv 1 42 (.agg lN) ax eu hHeld ?_ ?_
  ·intro w' s0
   exact bM (p:= .tmp 6) (ty:=76) (by rfl) (by rfl) s0 mY (by rfl) iF.out
  refine nz 42 ?_;refine oz 2 (none) ax (fun K hK=> ?_);refine cZ (by rfl) (by rfl) rfl rfl rfl bg.out eN.out rfl (by simp [Value.oneCell']) ?_;intro w9 hs_ ag;replace br:=oX ag br bg (by decide);replace cX:=oX ag cX bg (by decide);replace bL:=oR ag bL bg (by decide);replace bI:=oR ag bI bg (by decide);replace aZ:=oN ag aZ (cg cu);replace cG:=oR ag cG bg (by decide);replace HB:=oB ag HB kM;clear ag;replace bg:=aa.mk hs_;clear hs_;refine hK.out _ _ cX.out (fun hHeld=> ?_);clear hK K;refine pz 3 3 ax ?_;refine oz 4 (none) ax (fun K hK=> ?_);refine cZ (by rfl) (by rfl) rfl rfl rfl br.out iF.out rfl (by simp [Value.oneCell']) ?_;intro ku hs_ ag;replace bg:=oX ag bg br (by decide);replace cX:=oN ag cX (cg fP)
  replace bL:=oR ag bL br (by decide);replace bI:=oR ag bI br (by decide);replace aZ:=oX ag aZ br (by decide);replace cG:=oR ag cG br (by decide);replace HB:=oB ag HB mN;clear ag;replace br:=aa.mk hs_;clear hs_;refine hK.out _ _ cX.out (fun hHeld=> ?_);clear hK K;refine pz 5 5 ax ?_;refine dz ax ?_;clear ax eu hHeld
  (try dsimp only)
  go_wp2
  (try simp only [Exit.inBlock,Exit.then])
  refine bodyPost_ret (ia rfl _ _ _ _ _ _ _ _ (0,0) (0,0) _ _ rfl bg.out iW rfl eN.out rfl br.out mY rfl iF.out) rfl ?_;exact ⟨_,_,_,_,rfl,Kd.bX _ _ _ _ _,Kd.bX _ _ _ _ _,rfl,Kd.bX _ _ _ _ _,HB.out⟩
 |true=>
  rw [aq rfl] at H
  have HG:=aa.mk H;clear H
  (try dsimp only)
  have oL:=cz aZ.out 2 rfl;have uG:=cz aZ.out 6 rfl;have vM:=cz aZ.out 7 rfl
  go_upto_region 11 with (((refine fc rfl rfl rfl rfl rfl iF.out rfl (by simp [Value.oneCell']) ?_);intro fU gV dg))
  clear oL uG vM;revert fU gV dg;intro w8 gV dg;have bS:aa (w8.heap[w7.heap.size]?=some (.cells #[.int .u8 1,.int .u32 s,.int .u16 0,.int .u32 d,.int .u16 0,.int .u8 0,.slice none 0 0] 76 (0,0))):=⟨gV⟩
  have mO:=yY HB;have bY:=cW br;have jz:=cW cX;have ai:=dg;replace HB:=mB HB ai;replace bg:=mX bg ai;replace br:=mX br ai;replace cX:=mX cX ai;replace bL:=mR bL ai;replace bI:=mR bI ai;replace aZ:=mX aZ ai;replace cG:=mR cG ai;clear ai;clear gV dg;generalize w7.heap.size=gf at bS mO bY jz|-
  go_wp2_with fail
  refine (kK.calls mt mc ms mr DR DS mb 1 _ (Kd.ay cG.out).2.2 (Kd.ay cG.out).2.1 rfl).mono ?_;rintro ev w9 ⟨rfl,hb⟩;have ai:=hb;replace HB:=mB HB ai;replace bg:=mX bg ai;replace br:=mX br ai;replace cX:=mX cX ai;replace bL:=mR bL ai;replace bI:=mR bI ai;replace aZ:=mX aZ ai;replace cG:=mR cG ai;replace bS:=mX bS ai;clear ai;clear hb
  (try dsimp only)
  go_upto_region 13 with (((refine fc rfl rfl rfl rfl rfl jD.out rfl (by simp [Value.oneCell']) ?_);intro fU gV dg))
  revert fU gV dg;intro ku gV dg;have kC:aa (ku.heap[w9.heap.size]?=some (.cells #[.int .u8 mt,.int .u8 mc,.int .u16 ms,.int .u32 mr,.slice DR mb.length DS] 101 (0,0))):=⟨gV⟩
  have JR:=yY HB;have ai:=dg;replace HB:=mB HB ai;replace bg:=mX bg ai;replace br:=mX br ai;replace cX:=mX cX ai;replace bL:=mR bL ai;replace bI:=mR bI ai;replace aZ:=mX aZ ai;replace cG:=mR cG ai;replace bS:=mX bS ai;clear ai;clear gV dg;generalize w9.heap.size=gm at kC JR|-
  have Apl:=cz kC.out 4 rfl;have H:=HG.out;clear HG;obtain ⟨⟨il,ok⟩,hin,H⟩:=bR H;dsimp only at H
  have HG:=aa.mk H;clear H
  go_wp2_with fail
  clear Apl;refine (cV.calls k DR DS mb il ok _ (Kd.ay cG.out).2.2 (Kd.ay cG.out).2.1 hin).mono ?_;rintro ev sn ⟨vi,rfl,hi,hb⟩;clear hin;have kP:=aa.mk (Kd.bP hi (af HB.out));obtain ⟨Ai,ci,rfl,_,_⟩:=Kd.cj hi;clear hi;have ai:=hb;replace HB:=mB HB ai;replace bg:=mX bg ai;replace br:=mX br ai;replace cX:=mX cX ai;replace bL:=mR bL ai;replace bI:=mR bI ai;replace aZ:=mX aZ ai;replace cG:=mR cG ai;replace bS:=mX bS ai;replace kC:=mX kC ai;clear ai;clear hb;have H:=HG.out;clear HG;obtain ⟨ec,Y5,H⟩:=bR H;have HG:=aa.mk H;clear H
  (try dsimp only)
  go_wp2_with (refine Kd.bU rfl (bM rfl rfl kC.out Try.underlying101 rfl jD.out) ?_)
  refine (kA.calls mt mc ms mr DR DS mb ec _ (Kd.ay cG.out).2.2 (Kd.ay cG.out).2.1 Y5).mono ?_;rintro ev nP ⟨rfl,hb⟩;clear Y5;have ai:=hb;replace HB:=mB HB ai;replace bg:=mX bg ai;replace br:=mX br ai;replace cX:=mX cX ai;replace bL:=mR bL ai;replace bI:=mR bI ai;replace aZ:=mX aZ ai;replace cG:=mR cG ai;replace bS:=mX bS ai;replace kC:=mX kC ai;replace kP:=mI kP ai;clear ai;clear hb;have H:=HG.out;clear HG
  cases ec with
  |false=>
   rw [av (by decide)] at H
   obtain ⟨er,her,H⟩:=bR H;have HG:=aa.mk H;clear H
   (try dsimp only)
   go_wp2_with (refine Kd.bU rfl (bM rfl rfl kC.out Try.underlying101 rfl jD.out) ?_)
   refine (qu.calls mt mc ms mr DR DS mb er _ (Kd.ay cG.out).2.2 (Kd.ay cG.out).2.1 her).mono ?_;rintro ev yD ⟨rfl,hb⟩;clear her;have ai:=hb;replace HB:=mB HB ai;replace bg:=mX bg ai;replace br:=mX br ai;replace cX:=mX cX ai;replace bL:=mR bL ai;replace bI:=mR bI ai;replace aZ:=mX aZ ai;replace cG:=mR cG ai;replace bS:=mX bS ai;replace kC:=mX kC ai;replace kP:=mI kP ai;clear ai;clear hb;have H:=HG.out;clear HG
   cases er with
   |false=>
    rw [av (by decide)] at H
    obtain rfl:=cN H
    (try dsimp only)
    go_upto_region 18 with (fail)
    refine dB (n:=6) (S:=fun w'=>w'.heap[gn]?=some (.cells lN 76 (0,0))) (ds:=[]) #[false,false,false,false,false,false] (by kernel_rfl) rfl rfl cX.out (fun hHeld=> ?_);refine bF look.YZ.tab look.YZ.bits (fun ax eu=> ?_);have ai:=bf (Below.refl yD.heap.size yD);replace HB:=mB HB ai;replace bg:=mX bg ai;replace br:=mX br ai;replace cX:=mX cX ai;replace bL:=mR bL ai;replace bI:=mR bI ai;replace aZ:=mX aZ ai;replace cG:=mR cG ai;replace bS:=mX bS ai;replace kC:=mX kC ai;replace kP:=mI kP ai;clear ai;generalize yD.drew=qY at HB bg br cX bL bI aZ cG bS kC kP hHeld|-
    refine pz 0 88 ax ?_;refine tv 1 89 (.agg lN) ax eu hHeld ?_ ?_
    ·intro w' s0
     exact bM (p:= .tmp 6) (ty:=76) (by rfl) (by rfl) s0 mY (by rfl) iF.out
    refine nz 89 ?_;refine oz 2 (none) ax (fun K hK=> ?_);refine cZ (by rfl) (by rfl) rfl rfl rfl bg.out eN.out rfl (by simp [Value.oneCell']) ?_;intro BX hs_ ag;replace br:=oX ag br bg (by decide);replace cX:=oX ag cX bg (by decide);replace bL:=oR ag bL bg (by decide);replace bI:=oR ag bI bg (by decide);replace aZ:=oN ag aZ (cg cu);replace cG:=oR ag cG bg (by decide);replace bS:=oX ag bS bg (by decide);replace kC:=oX ag kC bg (by decide);replace kP:=oI ag kP bg (by decide);replace HB:=oB ag HB kM;clear ag;replace bg:=aa.mk hs_;clear hs_;refine hK.out _ _ cX.out (fun hHeld=> ?_);clear hK K;refine pz 3 3 ax ?_;refine oz 4 (none) ax (fun K hK=> ?_);refine cZ (by rfl) (by rfl) rfl rfl rfl br.out iF.out rfl (by simp [Value.oneCell']) ?_
    intro qJ hs_ ag;replace bg:=oX ag bg br (by decide);replace cX:=oN ag cX (cg fP);replace bL:=oR ag bL br (by decide);replace bI:=oR ag bI br (by decide);replace aZ:=oX ag aZ br (by decide);replace cG:=oR ag cG br (by decide);replace bS:=oN ag bS (cg bY);replace kC:=oX ag kC br (by decide);replace kP:=oI ag kP br (by decide);replace HB:=oB ag HB mN;clear ag;replace br:=aa.mk hs_;clear hs_;refine hK.out _ _ cX.out (fun hHeld=> ?_);clear hK K;refine pz 5 5 ax ?_;refine dz ax ?_;clear ax eu hHeld
    (try dsimp only)
    go_wp2
    (try simp only [Exit.inBlock,Exit.then])
    refine bodyPost_ret (ia rfl _ _ _ _ _ _ _ _ (0,0) (0,0) _ _ rfl bg.out iW rfl eN.out rfl br.out mY rfl iF.out) rfl ?_;exact ⟨_,_,_,_,rfl,Kd.bX _ _ _ _ _,Kd.bX _ _ _ _ _,rfl,Kd.bX _ _ _ _ _,HB.out⟩
   |true=>
    rw [aq rfl] at H
    cases ok with
    |false=>
     rw [av (by decide)] at H
     obtain rfl:=cN H
     (try dsimp only)
     go_upto_region 18 with (fail)
     refine dB (n:=6) (S:=fun w'=>w'.heap[gn]?=some (.cells lN 76 (0,0))) (ds:=[]) #[false,false,false,false,false,false] (by kernel_rfl) rfl rfl cX.out (fun hHeld=> ?_);refine bF look.YZ.tab look.YZ.bits (fun ax eu=> ?_);have ai:=bf (Below.refl yD.heap.size yD);replace HB:=mB HB ai;replace bg:=mX bg ai;replace br:=mX br ai;replace cX:=mX cX ai;replace bL:=mR bL ai;replace bI:=mR bI ai;replace aZ:=mX aZ ai;replace cG:=mR cG ai;replace bS:=mX bS ai;replace kC:=mX kC ai;replace kP:=mI kP ai;clear ai;generalize yD.drew=qY at HB bg br cX bL bI aZ cG bS kC kP hHeld|-
     refine pz 0 88 ax ?_;refine tv 1 89 (.agg lN) ax eu hHeld ?_ ?_
     ·intro w' s0
      exact bM (p:= .tmp 6) (ty:=76) (by rfl) (by rfl) s0 mY (by rfl) iF.out
     refine nz 89 ?_;refine oz 2 (none) ax (fun K hK=> ?_);refine cZ (by rfl) (by rfl) rfl rfl rfl bg.out eN.out rfl (by simp [Value.oneCell']) ?_;intro BX hs_ ag;replace br:=oX ag br bg (by decide);replace cX:=oX ag cX bg (by decide);replace bL:=oR ag bL bg (by decide);replace bI:=oR ag bI bg (by decide);replace aZ:=oN ag aZ (cg cu);replace cG:=oR ag cG bg (by decide);replace bS:=oX ag bS bg (by decide);replace kC:=oX ag kC bg (by decide);replace kP:=oI ag kP bg (by decide);replace HB:=oB ag HB kM;clear ag;replace bg:=aa.mk hs_;clear hs_;refine hK.out _ _ cX.out (fun hHeld=> ?_);clear hK K;refine pz 3 3 ax ?_;refine oz 4 (none) ax (fun K hK=> ?_);refine cZ (by rfl) (by rfl) rfl rfl rfl br.out iF.out rfl (by simp [Value.oneCell']) ?_
     intro qJ hs_ ag;replace bg:=oX ag bg br (by decide);replace cX:=oN ag cX (cg fP);replace bL:=oR ag bL br (by decide);replace bI:=oR ag bI br (by decide);replace aZ:=oX ag aZ br (by decide);replace cG:=oR ag cG br (by decide);replace bS:=oN ag bS (cg bY);replace kC:=oX ag kC br (by decide);replace kP:=oI ag kP br (by decide);replace HB:=oB ag HB mN;clear ag;replace br:=aa.mk hs_;clear hs_;refine hK.out _ _ cX.out (fun hHeld=> ?_);clear hK K;refine pz 5 5 ax ?_;refine dz ax ?_;clear ax eu hHeld
     (try dsimp only)
     go_wp2
     (try simp only [Exit.inBlock,Exit.then])
     refine bodyPost_ret (ia rfl _ _ _ _ _ _ _ _ (0,0) (0,0) _ _ rfl bg.out iW rfl eN.out rfl br.out mY rfl iF.out) rfl ?_;exact ⟨_,_,_,_,rfl,Kd.bX _ _ _ _ _,Kd.bX _ _ _ _ _,rfl,Kd.bX _ _ _ _ _,HB.out⟩
    |true=>
     rw [aq rfl] at H
     obtain rfl:=cN H
     (try dsimp only)
     go_upto_region 25 with (((refine jO rfl rfl (i:=6) (v:= .slice Ai il.length ci) (cs':= #[.int .u8 1,.int .u32 s,.int .u16 0,.int .u32 d,.int .u16 0,.int .u8 0,.slice Ai il.length ci]) bS.out rfl ?eY ?_);(case eY=>(have m_:=(aN bS.out 6).trans (rfl:_=some (.slice none 0 0:Value)));(have pU:=ae bS.out 6);first|(go_simp;done)|(go_simp;rfl));intro qY hs_ ag;replace bg:=oX ag bg bS (by decide);replace br:=oN ag br bY;replace cX:=oN ag cX jz;replace bL:=oR ag bL bS (by decide);replace bI:=oR ag bI bS (by decide);replace aZ:=oX ag aZ bS (by decide);replace cG:=oR ag cG bS (by decide);replace kC:=oX ag kC bS (by decide);replace kP:=oI ag kP bS (by decide);replace HB:=oB ag HB mO;clear ag;replace bS:=aa.mk hs_;clear hs_))
     (try dsimp only)
     go_upto_region 25 with (fail)
     refine dB (n:=7) (S:=fun w'=>w'.heap[gp]?=some (.cells #[.int .u8 a,.int .u8 t,.int .u8 1,.int .u16 i,.int .u8 fl,.int .u16 cr,.int .u32 s,.int .u32 d,.slice Ao o.length co,.slice Ab b.length cb] 73 (0,0)) /\ w'.heap[gf]?=some (.cells #[.int .u8 1,.int .u32 s,.int .u16 0,.int .u32 d,.int .u16 0,.int .u8 0,.slice Ai il.length ci] 76 (0,0))) (ds:=[]) #[false,false,false,false,false,false,false] (by kernel_rfl) rfl rfl ⟨aZ.out,bS.out⟩ (fun hHeld=> ?_);refine bF look.GZ.tab look.GZ.bits (fun ax eu=> ?_);have ai:=bf (Below.refl qY.heap.size qY);replace HB:=mB HB ai;replace bg:=mX bg ai;replace br:=mX br ai;replace cX:=mX cX ai;replace bL:=mR bL ai;replace bI:=mR bI ai;replace aZ:=mX aZ ai;replace cG:=mR cG ai;replace bS:=mX bS ai;replace kC:=mX kC ai
     replace kP:=mI kP ai;clear ai;generalize qY.drew=BX at HB bg br cX bL bI aZ cG bS kC kP hHeld|-
     refine pz 1 123 ax ?_;refine tv 0 122 (.agg #[.int .u8 a,.int .u8 t,.int .u8 1,.int .u16 i,.int .u8 fl,.int .u16 cr,.int .u32 s,.int .u32 d,.slice Ao o.length co,.slice Ab b.length cb]) ax eu hHeld ?_ ?_
     ·intro w' s0
      obtain ⟨s0,s1⟩:=s0;exact bM (p:= .tmp 7) (ty:=73) (by rfl) (by rfl) s0 iW (by rfl) eN.out
     refine nz 122 ?_;refine tv 2 124 (.agg #[.int .u8 1,.int .u32 s,.int .u16 0,.int .u32 d,.int .u16 0,.int .u8 0,.slice Ai il.length ci]) ax eu hHeld ?_ ?_
     ·intro w' s0
      obtain ⟨s0,s1⟩:=s0;exact bM (p:= .tmp 10) (ty:=76) (by rfl) (by rfl) s1 mY (by rfl) iF.out
     refine nz 124 ?_;refine oz 3 (none) ax (fun K hK=> ?_);refine cZ (by rfl) (by rfl) rfl rfl rfl bg.out eN.out rfl (by simp [Value.oneCell']) ?_;intro qJ hs_ ag;replace br:=oX ag br bg (by decide);replace cX:=oX ag cX bg (by decide);replace bL:=oR ag bL bg (by decide);replace bI:=oR ag bI bg (by decide);replace aZ:=oN ag aZ (cg cu);replace cG:=oR ag cG bg (by decide);replace bS:=oX ag bS bg (by decide);replace kC:=oX ag kC bg (by decide);replace kP:=oI ag kP bg (by decide);replace HB:=oB ag HB kM;clear ag;replace bg:=aa.mk hs_;clear hs_;refine hK.out _ _ ⟨aZ.out,bS.out⟩ (fun hHeld=> ?_);clear hK K;refine pz 4 3 ax ?_;refine oz 5 (none) ax (fun K hK=> ?_);refine cZ (by rfl) (by rfl) rfl rfl rfl br.out iF.out rfl (by simp [Value.oneCell']) ?_
     intro Fa hs_ ag;replace bg:=oX ag bg br (by decide);replace cX:=oN ag cX (cg fP);replace bL:=oR ag bL br (by decide);replace bI:=oR ag bI br (by decide);replace aZ:=oX ag aZ br (by decide);replace cG:=oR ag cG br (by decide);replace bS:=oN ag bS (cg bY);replace kC:=oX ag kC br (by decide);replace kP:=oI ag kP br (by decide);replace HB:=oB ag HB mN;clear ag;replace br:=aa.mk hs_;clear hs_;refine hK.out _ _ ⟨aZ.out,bS.out⟩ (fun hHeld=> ?_);clear hK K;refine pz 6 5 ax ?_;refine dz ax ?_;clear ax eu hHeld
     (try dsimp only)
     go_wp2
     (try simp only [Exit.inBlock,Exit.then])
     refine bodyPost_ret (ia rfl _ _ _ _ _ _ _ _ (0,0) (0,0) _ _ rfl bg.out iW rfl eN.out rfl br.out mY rfl iF.out) rfl ?_;exact ⟨_,_,_,_,rfl,bL.out,bI.out,⟨_,rfl,cG.out⟩,kP.out,HB.out⟩
  |true=>
   rw [aq rfl] at H
   obtain rfl:=cN H
   (try dsimp only)
   go_upto_region 16 with (fail)
   refine dB (n:=14) (S:=fun w'=>w'.cell? ⟨gm,3,none⟩=some (.int .u32 mr)) (ds:=[]) #[false,false,false,false,false,false,false,false,false,false,false,false,false,false] (by kernel_rfl) rfl rfl ((aN kC.out 3).trans rfl) (fun hHeld=> ?_);refine bF look.Ce.tab look.Ce.bits (fun ax eu=> ?_);have ai:=bf (Below.refl nP.heap.size nP);replace HB:=mB HB ai;replace bg:=mX bg ai;replace br:=mX br ai;replace cX:=mX cX ai;replace bL:=mR bL ai;replace bI:=mR bI ai;replace aZ:=mX aZ ai;replace cG:=mR cG ai;replace bS:=mX bS ai;replace kC:=mX kC ai;replace kP:=mI kP ai;clear ai;generalize nP.drew=yD at HB bg br cX bL bI aZ cG bS kC kP hHeld|-
   refine pz 0 68 ax ?_;refine pz 4 72 ax ?_;refine tz 1 69 ax eu hHeld ?_;refine pz 2 70 ax ?_;refine pz 3 71 ax ?_;refine pz 8 76 ax ?_;refine pz 9 77 ax ?_;refine tz 5 73 ax eu hHeld ?_;refine pz 6 74 ax ?_;refine pz 7 75 ax ?_;refine oz 10 (none) ax (fun K hK=> ?_);refine iy (i:=2) (v:= .int .u16 (mr / 65536 % 65536)) (cs':= #[.int .u8 1,.int .u32 s,.int .u16 (mr / 65536 % 65536),.int .u32 d,.int .u16 0,.int .u8 0,.slice none 0 0]) (by rfl) (by rfl) bS.out rfl (by (have m_:=(aN bS.out 2).trans (rfl:_=some (.int .u16 0:Value)));(have pU:=ae bS.out 2);first|(go_simp;done)|(go_simp;rfl)) ?_;intro qY hs_ ag;replace bg:=oX ag bg bS (by decide);replace br:=oN ag br bY;replace cX:=oN ag cX jz;replace bL:=oR ag bL bS (by decide)
   replace bI:=oR ag bI bS (by decide);replace aZ:=oX ag aZ bS (by decide);replace cG:=oR ag cG bS (by decide);replace kC:=oX ag kC bS (by decide);replace kP:=oI ag kP bS (by decide);replace HB:=oB ag HB mO;clear ag;replace bS:=aa.mk hs_;clear hs_;refine hK.out _ _ ((aN kC.out 3).trans rfl) (fun hHeld=> ?_);clear hK K;refine pz 11 78 ax ?_;refine pz 12 79 ax ?_;refine oz 13 (none) ax (fun K hK=> ?_);refine iy (i:=4) (v:= .int .u16 (mr / 65536 % 65536)) (cs':= #[.int .u8 1,.int .u32 s,.int .u16 (mr / 65536 % 65536),.int .u32 d,.int .u16 (mr / 65536 % 65536),.int .u8 0,.slice none 0 0]) (by rfl) (by rfl) bS.out rfl (by (have m_:=(aN bS.out 4).trans (rfl:_=some (.int .u16 0:Value)));(have pU:=ae bS.out 4);first|(go_simp;done)|(go_simp;rfl)) ?_
   intro BX hs_ ag;replace bg:=oX ag bg bS (by decide);replace br:=oN ag br bY;replace cX:=oN ag cX jz;replace bL:=oR ag bL bS (by decide);replace bI:=oR ag bI bS (by decide);replace aZ:=oX ag aZ bS (by decide);replace cG:=oR ag cG bS (by decide);replace kC:=oX ag kC bS (by decide);replace kP:=oI ag kP bS (by decide);replace HB:=oB ag HB mO;clear ag;replace bS:=aa.mk hs_;clear hs_;refine hK.out _ _ ((aN kC.out 3).trans rfl) (fun hHeld=> ?_);clear hK K;refine dz ax ?_;clear ax eu hHeld
   (try dsimp only)
   go_upto_region 25 with (fail)
   refine dB (n:=7) (S:=fun w'=>w'.heap[gp]?=some (.cells #[.int .u8 a,.int .u8 t,.int .u8 1,.int .u16 i,.int .u8 fl,.int .u16 cr,.int .u32 s,.int .u32 d,.slice Ao o.length co,.slice Ab b.length cb] 73 (0,0)) /\ w'.heap[gf]?=some (.cells #[.int .u8 1,.int .u32 s,.int .u16 (mr / 65536 % 65536),.int .u32 d,.int .u16 (mr / 65536 % 65536),.int .u8 0,.slice none 0 0] 76 (0,0))) (ds:=[]) #[false,false,false,false,false,false,false] (by kernel_rfl) rfl rfl ⟨aZ.out,bS.out⟩ (fun hHeld=> ?_);refine bF look.GZ.tab look.GZ.bits (fun ax eu=> ?_);have ai:=bf (Below.refl BX.heap.size BX);replace HB:=mB HB ai;replace bg:=mX bg ai;replace br:=mX br ai;replace cX:=mX cX ai;replace bL:=mR bL ai;replace bI:=mR bI ai;replace aZ:=mX aZ ai;replace cG:=mR cG ai;replace bS:=mX bS ai
   replace kC:=mX kC ai;replace kP:=mI kP ai;clear ai;generalize BX.drew=qJ at HB bg br cX bL bI aZ cG bS kC kP hHeld|-
   refine pz 1 123 ax ?_;refine tv 0 122 (.agg #[.int .u8 a,.int .u8 t,.int .u8 1,.int .u16 i,.int .u8 fl,.int .u16 cr,.int .u32 s,.int .u32 d,.slice Ao o.length co,.slice Ab b.length cb]) ax eu hHeld ?_ ?_
   ·intro w' s0
    obtain ⟨s0,s1⟩:=s0;exact bM (p:= .tmp 7) (ty:=73) (by rfl) (by rfl) s0 iW (by rfl) eN.out
   refine nz 122 ?_;refine tv 2 124 (.agg #[.int .u8 1,.int .u32 s,.int .u16 (mr / 65536 % 65536),.int .u32 d,.int .u16 (mr / 65536 % 65536),.int .u8 0,.slice none 0 0]) ax eu hHeld ?_ ?_
   ·intro w' s0
    obtain ⟨s0,s1⟩:=s0;exact bM (p:= .tmp 10) (ty:=76) (by rfl) (by rfl) s1 mY (by rfl) iF.out
   refine nz 124 ?_;refine oz 3 (none) ax (fun K hK=> ?_);refine cZ (by rfl) (by rfl) rfl rfl rfl bg.out eN.out rfl (by simp [Value.oneCell']) ?_;intro Fa hs_ ag;replace br:=oX ag br bg (by decide);replace cX:=oX ag cX bg (by decide);replace bL:=oR ag bL bg (by decide);replace bI:=oR ag bI bg (by decide);replace aZ:=oN ag aZ (cg cu);replace cG:=oR ag cG bg (by decide);replace bS:=oX ag bS bg (by decide);replace kC:=oX ag kC bg (by decide);replace kP:=oI ag kP bg (by decide);replace HB:=oB ag HB kM;clear ag;replace bg:=aa.mk hs_;clear hs_;refine hK.out _ _ ⟨aZ.out,bS.out⟩ (fun hHeld=> ?_);clear hK K;refine pz 4 3 ax ?_;refine oz 5 (none) ax (fun K hK=> ?_);refine cZ (by rfl) (by rfl) rfl rfl rfl br.out iF.out rfl (by simp [Value.oneCell']) ?_
   intro Vb hs_ ag;replace bg:=oX ag bg br (by decide);replace cX:=oN ag cX (cg fP);replace bL:=oR ag bL br (by decide);replace bI:=oR ag bI br (by decide);replace aZ:=oX ag aZ br (by decide);replace cG:=oR ag cG br (by decide);replace bS:=oN ag bS (cg bY);replace kC:=oX ag kC br (by decide);replace kP:=oI ag kP br (by decide);replace HB:=oB ag HB mN;clear ag;replace br:=aa.mk hs_;clear hs_;refine hK.out _ _ ⟨aZ.out,bS.out⟩ (fun hHeld=> ?_);clear hK K;refine pz 6 5 ax ?_;refine dz ax ?_;clear ax eu hHeld
   (try dsimp only)
   go_wp2
   (try simp only [Exit.inBlock,Exit.then])
   refine bodyPost_ret (ia rfl _ _ _ _ _ _ _ _ (0,0) (0,0) _ _ rfl bg.out iW rfl eN.out rfl br.out mY rfl iF.out) rfl ?_;exact ⟨_,_,_,_,rfl,bL.out,bI.out,⟨_,rfl,cG.out⟩,Kd.bX _ _ _ _ _,HB.out⟩
attribute [local go_sem] sB
attribute [local go_sem] sC
attribute [local go_sem] sD
attribute [local go_sem] sE
attribute [local go_sem] sG
attribute [local go_sem] sH
attribute [local go_sem] sI
attribute [local go_sem] sJ
attribute [local go_sem] sK
attribute [local go_sem] sL
attribute [local go_sem] sM
attribute [local go_sem] sN
theorem look.SZ (k:Nat) (A:Option Addr) (c:Nat) (l:List Int) (a t pr i fl cr s d:Int) (o b:List Int) (e_:Int) (w:World) (hC:Kd.C (Kd.int .u8) w A l.length l) (hL:l.length<=c) (hP:da.f k l=some (a,t,pr,i,fl,cr,s,d,o,b,e_)) (he:¬ e_=0):
  Calls Try.prog 69 #[.slice A l.length c] w fun e w'=>(LK.err e_).Post w.heap.size w e w':=by
 have iW:=Try.underlying73;have mY:=Try.underlying76;have HB:=gI w;have HC:=aa.mk hC;have HL:=aa.mk hL;have HP:=aa.mk hP;have eN:aa ((Try.prog.info? 73).map (·.size)=some 10):=⟨by kernel_rfl⟩
 have iF:aa ((Try.prog.info? 76).map (·.size)=some 7):=⟨by kernel_rfl⟩
 clear hC hL hP
 go_enter Try.func69,Try.ntmps69
 go_upto_region 2 with (first|((with_reducible refine aA (N:=2) rfl ?_);refine aC ?fT (N:=2) ?iB (cs:=jL) (t:=73) ?eY ?_;(case iB=>rfl);(case fT=>rfl);(case eY=>first|(go_simp;done)|(go_simp;rfl));intro gi bV w1 bw cB;have kM:=aa.mk (show w.heap.size<=gi by rw [bV];exact af HB.out);have bg:=aa.mk bw;have ai:=cB;replace HB:=mB HB ai;clear ai;clear bV bw cB)|((with_reducible refine aA (N:=4) rfl ?_);refine aC ?fT (N:=4) ?iB (cs:=lN) (t:=76) ?eY ?_;(case iB=>rfl);(case fT=>rfl);(case eY=>first|(go_simp;done)|(go_simp;rfl));intro gq bV w2 bw cB;have mN:=aa.mk (show w.heap.size<=gq by rw [bV];exact af HB.out);have br:=aa.mk bw;have ai:=cB;replace HB:=mB HB ai;replace bg:=mX bg ai;clear ai;clear bV bw cB)|((refine fc rfl rfl rfl rfl rfl iF.out rfl (by simp [Value.oneCell']) ?_);intro fU gV dg))
 revert fU gV dg;intro w3 gV dg;have cX:aa (w3.heap[w2.heap.size]?=some (.cells lN 76 (0,0))):=⟨gV⟩
 have Cf:=yY HB;have fP:=cW br;have ai:=dg;replace HB:=mB HB ai;replace bg:=mX bg ai;replace br:=mX br ai;clear ai;clear gV dg;generalize w2.heap.size=gn at cX Cf fP|-
 go_wp2_with fail
 refine (da.calls k A c l a t pr i fl cr s d o b e_ _ (Kd.aW HC.out HB.out) HL.out HP.out).mono ?_;rintro ev w4 ⟨vo,vb,rfl,ho,qd,hb⟩;have bL:=lO ho HB;obtain ⟨Ao,co,rfl,_,_⟩:=Kd.cj ho;clear ho;have bI:=lO qd HB;obtain ⟨Ab,cb,rfl,_,_⟩:=Kd.cj qd;clear qd;have ai:=hb;replace HB:=mB HB ai;replace bg:=mX bg ai;replace br:=mX br ai;replace cX:=mX cX ai;clear ai;clear hb HP HC HL
 (try dsimp only)
 go_upto_region 3 with (((refine fc rfl rfl rfl rfl rfl eN.out rfl (by simp [Value.oneCell']) ?_);intro fU gV dg))
 revert fU gV dg;intro w5 gV dg;have aZ:aa (w5.heap[w4.heap.size]?=some (.cells #[.int .u8 a,.int .u8 t,.int .u8 pr,.int .u16 i,.int .u8 fl,.int .u16 cr,.int .u32 s,.int .u32 d,.slice Ao o.length co,.slice Ab b.length cb] 73 (0,0))):=⟨gV⟩
 have lV:=yY HB;have cu:=cW bg;have ai:=dg;replace HB:=mB HB ai;replace bg:=mX bg ai;replace br:=mX br ai;replace cX:=mX cX ai;replace bL:=mR bL ai;replace bI:=mR bI ai;clear ai;clear gV dg;generalize w4.heap.size=gp at aZ lV cu|-
 have Wc:(e_==0)=false:=fq he;have he2:(e_ !=0)=true:=bne_iff_ne.2 he;clear he;have H:some (LK.err e_)=some (LK.err e_):=rfl
 (try dsimp only)
 go_upto_region 4 with (fail)
 refine dB (n:=7) (S:=fun w'=>w'.heap[gn]?=some (.cells lN 76 (0,0))) (ds:=[]) #[false,false,false,false,false,false,false] (by kernel_rfl) rfl rfl cX.out (fun hHeld=> ?_);refine bF look.R4.tab look.R4.bits (fun ax eu=> ?_);have ai:=bf (Below.refl w5.heap.size w5);replace HB:=mB HB ai;replace bg:=mX bg ai;replace br:=mX br ai;replace cX:=mX cX ai;replace bL:=mR bL ai;replace bI:=mR bI ai;replace aZ:=mX aZ ai;clear ai;generalize w5.drew=w6 at HB bg br cX bL bI aZ hHeld|-
 refine pz 0 24 ax ?_;refine pz 2 26 ax ?_;refine tv 1 25 (.agg lN) ax eu hHeld ?_ ?_
 ·intro w' s0
  exact bM (p:= .tmp 6) (ty:=76) (by rfl) (by rfl) s0 mY (by rfl) iF.out
 refine nz 25 ?_;refine oz 3 (none) ax (fun K hK=> ?_);refine cZ (by rfl) (by rfl) rfl rfl rfl bg.out eN.out rfl (by simp [Value.oneCell']) ?_;intro w7 hs_ ag;replace br:=oX ag br bg (by decide);replace cX:=oX ag cX bg (by decide);replace bL:=oR ag bL bg (by decide);replace bI:=oR ag bI bg (by decide);replace aZ:=oN ag aZ (cg cu);replace HB:=oB ag HB kM;clear ag;replace bg:=aa.mk hs_;clear hs_;refine hK.out _ _ cX.out (fun hHeld=> ?_);clear hK K;refine pz 4 3 ax ?_;refine oz 5 (none) ax (fun K hK=> ?_);refine cZ (by rfl) (by rfl) rfl rfl rfl br.out iF.out rfl (by simp [Value.oneCell']) ?_;intro w8 hs_ ag;replace bg:=oX ag bg br (by decide);replace cX:=oN ag cX (cg fP);replace bL:=oR ag bL br (by decide);replace bI:=oR ag bI br (by decide)
 replace aZ:=oX ag aZ br (by decide);replace HB:=oB ag HB mN;clear ag;replace br:=aa.mk hs_;clear hs_;refine hK.out _ _ cX.out (fun hHeld=> ?_);clear hK K;refine pz 6 5 ax ?_;refine dz ax ?_;clear ax eu hHeld
 (try dsimp only)
 go_wp2
 (try simp only [Exit.inBlock,Exit.then])
 refine bodyPost_ret (ia rfl _ _ _ _ _ _ _ _ (0,0) (0,0) _ _ rfl bg.out iW rfl eN.out rfl br.out mY rfl iF.out) rfl ?_;exact ⟨_,_,_,_,rfl,Kd.bX _ _ _ _ _,Kd.bX _ _ _ _ _,rfl,Kd.bX _ _ _ _ _,HB.out⟩
theorem look.S0 (k:Nat) (A:Option Addr) (c:Nat) (l:List Int) (a t pr i fl cr s d:Int) (o b:List Int) (w:World) (hC:Kd.C (Kd.int .u8) w A l.length l) (hL:l.length<=c) (hP:da.f k l=some (a,t,pr,i,fl,cr,s,d,o,b,0)) (VJ:¬ pr=17) (n6:¬ pr=6) (n1:¬ pr=1):
  Calls Try.prog 69 #[.slice A l.length c] w fun e w'=>(LK.err 21).Post w.heap.size w e w':=by
 have iW:=Try.underlying73;have mY:=Try.underlying76;have HB:=gI w;have HC:=aa.mk hC;have HL:=aa.mk hL;have HP:=aa.mk hP;have eN:aa ((Try.prog.info? 73).map (·.size)=some 10):=⟨by kernel_rfl⟩
 have iF:aa ((Try.prog.info? 76).map (·.size)=some 7):=⟨by kernel_rfl⟩
 clear hC hL hP
 go_enter Try.func69,Try.ntmps69
 go_upto_region 2 with (first|((with_reducible refine aA (N:=2) rfl ?_);refine aC ?fT (N:=2) ?iB (cs:=jL) (t:=73) ?eY ?_;(case iB=>rfl);(case fT=>rfl);(case eY=>first|(go_simp;done)|(go_simp;rfl));intro gi bV w1 bw cB;have kM:=aa.mk (show w.heap.size<=gi by rw [bV];exact af HB.out);have bg:=aa.mk bw;have ai:=cB;replace HB:=mB HB ai;clear ai;clear bV bw cB)|((with_reducible refine aA (N:=4) rfl ?_);refine aC ?fT (N:=4) ?iB (cs:=lN) (t:=76) ?eY ?_;(case iB=>rfl);(case fT=>rfl);(case eY=>first|(go_simp;done)|(go_simp;rfl));intro gq bV w2 bw cB;have mN:=aa.mk (show w.heap.size<=gq by rw [bV];exact af HB.out);have br:=aa.mk bw;have ai:=cB;replace HB:=mB HB ai;replace bg:=mX bg ai;clear ai;clear bV bw cB)|((refine fc rfl rfl rfl rfl rfl iF.out rfl (by simp [Value.oneCell']) ?_);intro fU gV dg))
 revert fU gV dg;intro w3 gV dg;have cX:aa (w3.heap[w2.heap.size]?=some (.cells lN 76 (0,0))):=⟨gV⟩
 have Cf:=yY HB;have fP:=cW br;have ai:=dg;replace HB:=mB HB ai;replace bg:=mX bg ai;replace br:=mX br ai;clear ai;clear gV dg;generalize w2.heap.size=gn at cX Cf fP|-
 go_wp2_with fail
 refine (da.calls k A c l a t pr i fl cr s d o b 0 _ (Kd.aW HC.out HB.out) HL.out HP.out).mono ?_;rintro ev w4 ⟨vo,vb,rfl,ho,qd,hb⟩;have bL:=lO ho HB;obtain ⟨Ao,co,rfl,_,_⟩:=Kd.cj ho;clear ho;have bI:=lO qd HB;obtain ⟨Ab,cb,rfl,_,_⟩:=Kd.cj qd;clear qd;have ai:=hb;replace HB:=mB HB ai;replace bg:=mX bg ai;replace br:=mX br ai;replace cX:=mX cX ai;clear ai;clear hb HP HC HL
 (try dsimp only)
 go_upto_region 3 with (((refine fc rfl rfl rfl rfl rfl eN.out rfl (by simp [Value.oneCell']) ?_);intro fU gV dg))
 revert fU gV dg;intro w5 gV dg;have aZ:aa (w5.heap[w4.heap.size]?=some (.cells #[.int .u8 a,.int .u8 t,.int .u8 pr,.int .u16 i,.int .u8 fl,.int .u16 cr,.int .u32 s,.int .u32 d,.slice Ao o.length co,.slice Ab b.length cb] 73 (0,0))):=⟨gV⟩
 have lV:=yY HB;have cu:=cW bg;have ai:=dg;replace HB:=mB HB ai;replace bg:=mX bg ai;replace br:=mX br ai;replace cX:=mX cX ai;replace bL:=mR bL ai;replace bI:=mR bI ai;clear ai;clear gV dg;generalize w4.heap.size=gp at aZ lV cu|-
 have Wc:((0:Int)==0)=true:=rfl;have he2:((0:Int) !=0)=false:=rfl
 (try dsimp only)
 go_wp2_with (refine Kd.bU rfl (bM rfl rfl aZ.out Try.underlying73 rfl eN.out) ?_)
 clear Wc he2;refine (oK.Ry a t i fl cr s d Ao o.length co Ab cb b pr _ VJ n6 n1).mono ?_;rintro ev w6 ⟨rfl,hb⟩;have ai:=hb;replace HB:=mB HB ai;replace bg:=mX bg ai;replace br:=mX br ai;replace cX:=mX cX ai;replace bL:=mR bL ai;replace bI:=mR bI ai;replace aZ:=mX aZ ai;clear ai;clear hb;have H:some (LK.err 21)=some (LK.err 21):=rfl
 (try dsimp only)
 go_upto_region 7 with (fail)
 refine dB (n:=7) (S:=fun w'=>w'.heap[gn]?=some (.cells lN 76 (0,0))) (ds:=[]) #[false,false,false,false,false,false,false] (by kernel_rfl) rfl rfl cX.out (fun hHeld=> ?_);refine bF look.R7.tab look.R7.bits (fun ax eu=> ?_);have ai:=bf (Below.refl w6.heap.size w6);replace HB:=mB HB ai;replace bg:=mX bg ai;replace br:=mX br ai;replace cX:=mX cX ai;replace bL:=mR bL ai;replace bI:=mR bI ai;replace aZ:=mX aZ ai;clear ai;generalize w6.drew=w7 at HB bg br cX bL bI aZ hHeld|-
 refine pz 0 34 ax ?_;refine pz 2 36 ax ?_;refine tv 1 35 (.agg lN) ax eu hHeld ?_ ?_
 ·intro w' s0
  exact bM (p:= .tmp 6) (ty:=76) (by rfl) (by rfl) s0 mY (by rfl) iF.out
 refine nz 35 ?_;refine oz 3 (none) ax (fun K hK=> ?_);refine cZ (by rfl) (by rfl) rfl rfl rfl bg.out eN.out rfl (by simp [Value.oneCell']) ?_;intro w8 hs_ ag;replace br:=oX ag br bg (by decide);replace cX:=oX ag cX bg (by decide);replace bL:=oR ag bL bg (by decide);replace bI:=oR ag bI bg (by decide);replace aZ:=oN ag aZ (cg cu);replace HB:=oB ag HB kM;clear ag;replace bg:=aa.mk hs_;clear hs_;refine hK.out _ _ cX.out (fun hHeld=> ?_);clear hK K;refine pz 4 3 ax ?_;refine oz 5 (none) ax (fun K hK=> ?_);refine cZ (by rfl) (by rfl) rfl rfl rfl br.out iF.out rfl (by simp [Value.oneCell']) ?_;intro w9 hs_ ag;replace bg:=oX ag bg br (by decide);replace cX:=oN ag cX (cg fP);replace bL:=oR ag bL br (by decide);replace bI:=oR ag bI br (by decide)
 replace aZ:=oX ag aZ br (by decide);replace HB:=oB ag HB mN;clear ag;replace br:=aa.mk hs_;clear hs_;refine hK.out _ _ cX.out (fun hHeld=> ?_);clear hK K;refine pz 6 5 ax ?_;refine dz ax ?_;clear ax eu hHeld
 (try dsimp only)
 go_wp2
 (try simp only [Exit.inBlock,Exit.then])
 refine bodyPost_ret (ia rfl _ _ _ _ _ _ _ _ (0,0) (0,0) _ _ rfl bg.out iW rfl eN.out rfl br.out mY rfl iF.out) rfl ?_;exact ⟨_,_,_,_,rfl,Kd.bX _ _ _ _ _,Kd.bX _ _ _ _ _,rfl,Kd.bX _ _ _ _ _,HB.out⟩
attribute [local go_sem] sB
attribute [local go_sem] sC
attribute [local go_sem] sD
attribute [local go_sem] sE
attribute [local go_sem] sG
attribute [local go_sem] sH
attribute [local go_sem] sI
attribute [local go_sem] sJ
attribute [local go_sem] sK
attribute [local go_sem] sL
attribute [local go_sem] sM
attribute [local go_sem] sN
theorem pointed.Wd (k:Nat) (si sp di dp:Int) (mt mc ms mr:Int) (mb:List Int) (vmb:Value) (r:List Int) (w:World) {base:Nat} (hmb:Kd.R (Kd.int .u8) 5 w base (fun _=>True) vmb mb) (H:pointed.f k si sp di dp (.zg mt mc ms mr mb)=some r):
  Calls Try.prog 70 #[.iface 183 (.agg #[.int .u8 mt,.int .u8 mc,.int .u16 ms,.int .u32 mr,vmb]),.agg #[.int .u32 si,.int .u16 sp],.agg #[.int .u32 di,.int .u16 dp]] w fun e w'=>∃ vz:Value,e= .returned vz /\ Kd.R (Kd.int .u8) 5 w' w.heap.size (fun _=>True) vz r /\ Below w.heap.size w w':=by
 have mM:=Try.underlying65;have zO:=Try.underlying83;have uC:=Try.underlying137;have oA:=Try.underlying101;have Js:=Try.underlying179;have JB:=Try.underlying181;have JH:=Try.underlying183;unfold pointed.f at H
 have HB:=gI w;have iM:aa ((Try.prog.info? 65).map (·.size)=some 2):=⟨by kernel_rfl⟩
 have yj:aa ((Try.prog.info? 83).map (·.size)=some 4):=⟨by kernel_rfl⟩
 have mz:aa ((Try.prog.info? 137).map (·.size)=some 10):=⟨by kernel_rfl⟩
 have jD:aa ((Try.prog.info? 101).map (·.size)=some 5):=⟨by kernel_rfl⟩
 have NH:aa ((Try.prog.info? 179).map (·.size)=some 4):=⟨by kernel_rfl⟩
 have NI:aa ((Try.prog.info? 181).map (·.size)=some 10):=⟨by kernel_rfl⟩
 have SY:aa ((Try.prog.info? 183).map (·.size)=some 5):=⟨by kernel_rfl⟩
 obtain ⟨DR,DS,rfl,_,_⟩:=Kd.cj hmb;have cG:=aa.mk hmb;clear hmb;have HG:=aa.mk H;clear H
 go_enter Try.func70,Try.ntmps70
 go_upto_region 2 with (first|((with_reducible refine aA (N:=4) rfl ?_);refine aC ?fT (N:=4) ?iB (cs:= #[.int .u32 si,.int .u16 sp]) (t:=65) ?eY ?_;(case iB=>rfl);(case fT=>rfl);(case eY=>first|(go_simp;done)|(go_simp;rfl));intro gs bV w1 bw cB;have G2:=aa.mk (show w.heap.size<=gs by rw [bV];exact af HB.out);have cT:=aa.mk bw;have ai:=cB;replace HB:=mB HB ai;replace cG:=mR cG ai;clear ai;clear bV bw cB)|((with_reducible refine aA (N:=5) rfl ?_);refine aC ?fT (N:=5) ?iB (cs:= #[.int .u32 di,.int .u16 dp]) (t:=65) ?eY ?_;(case iB=>rfl);(case fT=>rfl);(case eY=>first|(go_simp;done)|(go_simp;rfl));intro gd bV w2 bw cB;have Fb:=aa.mk (show w.heap.size<=gd by rw [bV];exact af HB.out);have cL:=aa.mk bw;have jA:aa (gs≠gd):=⟨by rw [bV];exact (cW cT).out⟩;have ai:=cB;replace HB:=mB HB ai;replace cG:=mR cG ai;replace cT:=mX cT ai;clear ai;clear bV bw cB))
 go_wp2_with fail
 refine (kK.calls mt mc ms mr DR DS mb 1 _ (Kd.ay cG.out).2.2 (Kd.ay cG.out).2.1 rfl).mono ?_;rintro ev w3 ⟨rfl,hb⟩;have ai:=hb;replace HB:=mB HB ai;replace cG:=mR cG ai;replace cT:=mX cT ai;replace cL:=mX cL ai;clear ai;clear hb
 (try dsimp only)
 go_upto_region 4 with (((refine fc rfl rfl rfl rfl rfl jD.out rfl (by simp [Value.oneCell']) ?_);intro fU gV dg))
 revert fU gV dg;intro w4 gV dg;have cM:aa (w4.heap[w3.heap.size]?=some (.cells #[.int .u8 mt,.int .u8 mc,.int .u16 ms,.int .u32 mr,.slice DR mb.length DS] 101 (0,0))):=⟨gV⟩
 have sW:=yY HB;have ai:=dg;replace HB:=mB HB ai;replace cG:=mR cG ai;replace cT:=mX cT ai;replace cL:=mX cL ai;clear ai;clear gV dg;generalize w3.heap.size=gu at cM sW|-
 have H:=HG.out;clear HG;obtain ⟨ec,Y5,H⟩:=bR H;have HG:=aa.mk H;clear H
 (try dsimp only)
 go_wp2_with (refine Kd.bU rfl (bM rfl rfl cM.out Try.underlying101 rfl jD.out) ?_)
 refine (kA.calls mt mc ms mr DR DS mb ec _ (Kd.ay cG.out).2.2 (Kd.ay cG.out).2.1 Y5).mono ?_;rintro ev w5 ⟨rfl,hb⟩;clear Y5;have ai:=hb;replace HB:=mB HB ai;replace cG:=mR cG ai;replace cT:=mX cT ai;replace cL:=mX cL ai;replace cM:=mX cM ai;clear ai;clear hb;have H:=HG.out;clear HG
 cases ec with
 |false=>
  rw [av (by decide)] at H
  (try dsimp only)
  obtain ⟨s,hs,H⟩:=bR H;have HG:=aa.mk H;clear H
  go_wp2_with (refine Kd.bU rfl (bM rfl rfl cM.out Try.underlying101 rfl jD.out) ?_)
  refine (uF.calls k mt mc ms mr DR DS mb s _ (Kd.ay cG.out).2.2 (Kd.ay cG.out).2.1 hs).mono ?_;rintro ev w6 ⟨rfl,hb⟩;clear hs;have ai:=hb;replace HB:=mB HB ai;replace cG:=mR cG ai;replace cT:=mX cT ai;replace cL:=mX cL ai;replace cM:=mX cM ai;clear ai;clear hb
  (try dsimp only)
  go_upto_region 7 with (((refine jO rfl rfl (i:=2) (v:= .int .u16 s) (cs':= #[.int .u8 mt,.int .u8 mc,.int .u16 s,.int .u32 mr,.slice DR mb.length DS]) cM.out rfl ?eY ?_);(case eY=>(have m_:=(aN cM.out 2).trans (rfl:_=some (.int .u16 ms:Value)));(have pU:=ae cM.out 2);first|(go_simp;done)|(go_simp;rfl));intro w7 hs_ ag;replace cG:=oR ag cG cM (by decide);replace cT:=oX ag cT cM (by decide);replace cL:=oX ag cL cM (by decide);replace HB:=oB ag HB sW;clear ag;replace cM:=aa.mk hs_;clear hs_))
  have H:=HG.out;clear HG;obtain ⟨⟨rz,re⟩,hz,H⟩:=bR H;obtain rfl:=cN H
  (try dsimp only)
  go_wp2_with (refine Kd.bU rfl (bM rfl rfl cM.out Try.underlying101 rfl jD.out) ?_)
  refine (iE.calls mt mc s mr DR DS mb rz re _ (Kd.ay cG.out).2.2 (Kd.ay cG.out).2.1 hz).mono ?_;rintro ev w8 ⟨vz,rfl,ho,hb⟩;clear hz;have HRz:=lO ho HB;clear ho;have ai:=hb;replace HB:=mB HB ai;replace cG:=mR cG ai;replace cT:=mX cT ai;replace cL:=mX cL ai;replace cM:=mX cM ai;clear ai;clear hb
  (try dsimp only)
  go_wp2
  (try simp only [Exit.inBlock,Exit.then])
  go_ret
  exact ⟨_,rfl,HRz.out,HB.out⟩
 |true=>
  rw [aq rfl] at H
  have HG:=aa.mk H;clear H;have Apm:=cz cM.out 3 rfl;have Cg:=cz cT.out 1 rfl
  (try dsimp only)
  go_upto_region 6 with (((refine jO rfl rfl (i:=3) (v:= .int .u32 (Go.bits .or .u32 (Go.bits .and .u32 mr 65535) (sp % 4294967296*65536 % 4294967296))) (cs':= #[.int .u8 mt,.int .u8 mc,.int .u16 ms,.int .u32 (Go.bits .or .u32 (Go.bits .and .u32 mr 65535) (sp % 4294967296*65536 % 4294967296)),.slice DR mb.length DS]) cM.out rfl ?eY ?_);(case eY=>(have m_:=(aN cM.out 3).trans (rfl:_=some (.int .u32 mr:Value)));(have pU:=ae cM.out 3);first|(go_simp;done)|(go_simp;rfl));intro w6 hs_ ag;replace cG:=oR ag cG cM (by decide);replace cT:=oX ag cT cM (by decide);replace cL:=oX ag cL cM (by decide);replace HB:=oB ag HB sW;clear ag;replace cM:=aa.mk hs_;clear hs_))
  clear Apm Cg;have H:=HG.out;clear HG;obtain ⟨s,hs,H⟩:=bR H;have HG:=aa.mk H;clear H
  go_wp2_with (refine Kd.bU rfl (bM rfl rfl cM.out Try.underlying101 rfl jD.out) ?_)
  refine (uF.calls k mt mc ms (Go.bits .or .u32 (Go.bits .and .u32 mr 65535) (sp % 4294967296*65536 % 4294967296)) DR DS mb s _ (Kd.ay cG.out).2.2 (Kd.ay cG.out).2.1 hs).mono ?_;rintro ev w7 ⟨rfl,hb⟩;clear hs;have ai:=hb;replace HB:=mB HB ai;replace cG:=mR cG ai;replace cT:=mX cT ai;replace cL:=mX cL ai;replace cM:=mX cM ai;clear ai;clear hb
  (try dsimp only)
  go_upto_region 7 with (((refine jO rfl rfl (i:=2) (v:= .int .u16 s) (cs':= #[.int .u8 mt,.int .u8 mc,.int .u16 s,.int .u32 (Go.bits .or .u32 (Go.bits .and .u32 mr 65535) (sp % 4294967296*65536 % 4294967296)),.slice DR mb.length DS]) cM.out rfl ?eY ?_);(case eY=>(have m_:=(aN cM.out 2).trans (rfl:_=some (.int .u16 ms:Value)));(have pU:=ae cM.out 2);first|(go_simp;done)|(go_simp;rfl));intro w8 hs_ ag;replace cG:=oR ag cG cM (by decide);replace cT:=oX ag cT cM (by decide);replace cL:=oX ag cL cM (by decide);replace HB:=oB ag HB sW;clear ag;replace cM:=aa.mk hs_;clear hs_))
  have H:=HG.out;clear HG;obtain ⟨⟨rz,re⟩,hz,H⟩:=bR H;obtain rfl:=cN H
  (try dsimp only)
  go_wp2_with (refine Kd.bU rfl (bM rfl rfl cM.out Try.underlying101 rfl jD.out) ?_)
  refine (iE.calls mt mc s (Go.bits .or .u32 (Go.bits .and .u32 mr 65535) (sp % 4294967296*65536 % 4294967296)) DR DS mb rz re _ (Kd.ay cG.out).2.2 (Kd.ay cG.out).2.1 hz).mono ?_;rintro ev w9 ⟨vz,rfl,ho,hb⟩;clear hz;have HRz:=lO ho HB;clear ho;have ai:=hb;replace HB:=mB HB ai;replace cG:=mR cG ai;replace cT:=mX cT ai;replace cL:=mX cL ai;replace cM:=mX cM ai;clear ai;clear hb
  (try dsimp only)
  go_wp2
  (try simp only [Exit.inBlock,Exit.then])
  go_ret
  exact ⟨_,rfl,HRz.out,HB.out⟩
attribute [local go_sem] sB
attribute [local go_sem] sC
attribute [local go_sem] sD
attribute [local go_sem] sE
attribute [local go_sem] sG
attribute [local go_sem] sH
attribute [local go_sem] sI
attribute [local go_sem] sJ
attribute [local go_sem] sK
attribute [local go_sem] sL
attribute [local go_sem] sM
attribute [local go_sem] sN
theorem look.Acw (k:Nat) (A:Option Addr) (c:Nat) (l:List Int) (a t i fl cr s d:Int) (o b:List Int) (r:LK) (w:World) (hC:Kd.C (Kd.int .u8) w A l.length l) (hL:l.length<=c) (hP:da.f k l=some (a,t,17,i,fl,cr,s,d,o,b,0)) (h:rR k a t i fl cr s d o b=some r):
  Calls Try.prog 69 #[.slice A l.length c] w fun e w'=>r.Post w.heap.size w e w':=by
 have iW:=Try.underlying73;have mY:=Try.underlying76;have zO:=Try.underlying83;have uC:=Try.underlying137;have oA:=Try.underlying101;have Js:=Try.underlying179;have JB:=Try.underlying181;have JH:=Try.underlying183;have HB:=gI w;have HC:=aa.mk hC;have HL:=aa.mk hL;have HP:=aa.mk hP;have HF:=aa.mk h;have eN:aa ((Try.prog.info? 73).map (·.size)=some 10):=⟨by kernel_rfl⟩
 have iF:aa ((Try.prog.info? 76).map (·.size)=some 7):=⟨by kernel_rfl⟩
 have yj:aa ((Try.prog.info? 83).map (·.size)=some 4):=⟨by kernel_rfl⟩
 have mz:aa ((Try.prog.info? 137).map (·.size)=some 10):=⟨by kernel_rfl⟩
 have jD:aa ((Try.prog.info? 101).map (·.size)=some 5):=⟨by kernel_rfl⟩
 have NH:aa ((Try.prog.info? 179).map (·.size)=some 4):=⟨by kernel_rfl⟩
 have NI:aa ((Try.prog.info? 181).map (·.size)=some 10):=⟨by kernel_rfl⟩
 have SY:aa ((Try.prog.info? 183).map (·.size)=some 5):=⟨by kernel_rfl⟩
 clear hC hL hP h
 go_enter Try.func69,Try.ntmps69
 go_upto_region 2 with (first|((with_reducible refine aA (N:=2) rfl ?_);refine aC ?fT (N:=2) ?iB (cs:=jL) (t:=73) ?eY ?_;(case iB=>rfl);(case fT=>rfl);(case eY=>first|(go_simp;done)|(go_simp;rfl));intro gi bV w1 bw cB;have kM:=aa.mk (show w.heap.size<=gi by rw [bV];exact af HB.out);have bg:=aa.mk bw;have ai:=cB;replace HB:=mB HB ai;clear ai;clear bV bw cB)|((with_reducible refine aA (N:=4) rfl ?_);refine aC ?fT (N:=4) ?iB (cs:=lN) (t:=76) ?eY ?_;(case iB=>rfl);(case fT=>rfl);(case eY=>first|(go_simp;done)|(go_simp;rfl));intro gq bV w2 bw cB;have mN:=aa.mk (show w.heap.size<=gq by rw [bV];exact af HB.out);have br:=aa.mk bw;have ai:=cB;replace HB:=mB HB ai;replace bg:=mX bg ai;clear ai;clear bV bw cB)|((refine fc rfl rfl rfl rfl rfl iF.out rfl (by simp [Value.oneCell']) ?_);intro fU gV dg))
 revert fU gV dg;intro w3 gV dg;have cX:aa (w3.heap[w2.heap.size]?=some (.cells lN 76 (0,0))):=⟨gV⟩
 have Cf:=yY HB;have fP:=cW br;have ai:=dg;replace HB:=mB HB ai;replace bg:=mX bg ai;replace br:=mX br ai;clear ai;clear gV dg;generalize w2.heap.size=gn at cX Cf fP|-
 go_wp2_with fail
 refine (da.calls k A c l a t 17 i fl cr s d o b 0 _ (Kd.aW HC.out HB.out) HL.out HP.out).mono ?_;rintro ev w4 ⟨vo,vb,rfl,ho,qd,hb⟩;have bL:=lO ho HB;obtain ⟨Ao,co,rfl,_,_⟩:=Kd.cj ho;clear ho;have bI:=lO qd HB;obtain ⟨Ab,cb,rfl,_,_⟩:=Kd.cj qd;clear qd;have ai:=hb;replace HB:=mB HB ai;replace bg:=mX bg ai;replace br:=mX br ai;replace cX:=mX cX ai;clear ai;clear hb HP HC HL
 (try dsimp only)
 go_upto_region 3 with (((refine fc rfl rfl rfl rfl rfl eN.out rfl (by simp [Value.oneCell']) ?_);intro fU gV dg))
 revert fU gV dg;intro w5 gV dg;have aZ:aa (w5.heap[w4.heap.size]?=some (.cells #[.int .u8 a,.int .u8 t,.int .u8 17,.int .u16 i,.int .u8 fl,.int .u16 cr,.int .u32 s,.int .u32 d,.slice Ao o.length co,.slice Ab b.length cb] 73 (0,0))):=⟨gV⟩
 have lV:=yY HB;have cu:=cW bg;have ai:=dg;replace HB:=mB HB ai;replace bg:=mX bg ai;replace br:=mX br ai;replace cX:=mX cX ai;replace bL:=mR bL ai;replace bI:=mR bI ai;clear ai;clear gV dg;generalize w4.heap.size=gp at aZ lV cu|-
 have H:rR k a t i fl cr s d o b=some r:=HF.out;clear HF;unfold rR at H
 obtain ⟨⟨us,ud,uc,ub,e2⟩,hp,H⟩:=bR H;dsimp only at H
 have HG:=aa.mk H;clear H;have Wc:((0:Int)==0)=true:=rfl;have he2:((0:Int) !=0)=false:=rfl
 (try dsimp only)
 go_wp2_with (refine Kd.bU rfl (bM rfl rfl aZ.out Try.underlying73 rfl eN.out) ?_)
 clear Wc he2;refine (oK.Aba a t i fl cr s d Ao o.length co Ab cb b us ud uc e2 ub _ (Kd.ay bI.out).2.2 (Kd.ay bI.out).2.1 hp).mono ?_;rintro ev w6 ⟨vub,rfl,hub,hb⟩;clear hp;have iu:=lO hub HB;obtain ⟨Aub,cub,rfl,_,_⟩:=Kd.cj hub;clear hub;have ai:=hb;replace HB:=mB HB ai;replace bg:=mX bg ai;replace br:=mX br ai;replace cX:=mX cX ai;replace bL:=mR bL ai;replace bI:=mR bI ai;replace aZ:=mX aZ ai;clear ai;clear hb;have H:=HG.out;clear HG
 by_cases ce:e2=0
 rotate_left
 ·have Ad:(e2==0)=false:=fq ce
  have G1:(e2 !=0)=true:=bne_iff_ne.2 ce;rw [av ce] at H
  clear ce;obtain rfl:=cN H
  (try dsimp only)
  go_upto_region 7 with (fail)
  refine dB (n:=7) (S:=fun w'=>w'.heap[gn]?=some (.cells lN 76 (0,0))) (ds:=[]) #[false,false,false,false,false,false,false] (by kernel_rfl) rfl rfl cX.out (fun hHeld=> ?_);refine bF look.R7.tab look.R7.bits (fun ax eu=> ?_);have ai:=bf (Below.refl w6.heap.size w6);replace HB:=mB HB ai;replace bg:=mX bg ai;replace br:=mX br ai;replace cX:=mX cX ai;replace bL:=mR bL ai;replace bI:=mR bI ai;replace aZ:=mX aZ ai;replace iu:=mR iu ai;clear ai;generalize w6.drew=w7 at HB bg br cX bL bI aZ iu hHeld|-
  refine pz 0 34 ax ?_;refine pz 2 36 ax ?_;refine tv 1 35 (.agg lN) ax eu hHeld ?_ ?_
  ·intro w' s0
   exact bM (p:= .tmp 6) (ty:=76) (by rfl) (by rfl) s0 mY (by rfl) iF.out
  refine nz 35 ?_;refine oz 3 (none) ax (fun K hK=> ?_);refine cZ (by rfl) (by rfl) rfl rfl rfl bg.out eN.out rfl (by simp [Value.oneCell']) ?_;intro w8 hs_ ag;replace br:=oX ag br bg (by decide);replace cX:=oX ag cX bg (by decide);replace bL:=oR ag bL bg (by decide);replace bI:=oR ag bI bg (by decide);replace aZ:=oN ag aZ (cg cu);replace iu:=oR ag iu bg (by decide);replace HB:=oB ag HB kM;clear ag;replace bg:=aa.mk hs_;clear hs_;refine hK.out _ _ cX.out (fun hHeld=> ?_);clear hK K;refine pz 4 3 ax ?_;refine oz 5 (none) ax (fun K hK=> ?_);refine cZ (by rfl) (by rfl) rfl rfl rfl br.out iF.out rfl (by simp [Value.oneCell']) ?_;intro w9 hs_ ag;replace bg:=oX ag bg br (by decide);replace cX:=oN ag cX (cg fP)
  replace bL:=oR ag bL br (by decide);replace bI:=oR ag bI br (by decide);replace aZ:=oX ag aZ br (by decide);replace iu:=oR ag iu br (by decide);replace HB:=oB ag HB mN;clear ag;replace br:=aa.mk hs_;clear hs_;refine hK.out _ _ cX.out (fun hHeld=> ?_);clear hK K;refine pz 6 5 ax ?_;refine dz ax ?_;clear ax eu hHeld
  (try dsimp only)
  go_wp2
  (try simp only [Exit.inBlock,Exit.then])
  refine bodyPost_ret (ia rfl _ _ _ _ _ _ _ _ (0,0) (0,0) _ _ rfl bg.out iW rfl eN.out rfl br.out mY rfl iF.out) rfl ?_;exact ⟨_,_,_,_,rfl,Kd.bX _ _ _ _ _,Kd.bX _ _ _ _ _,rfl,Kd.bX _ _ _ _ _,HB.out⟩
 have Ad:(e2==0)=true:=fF ce
 have G1:(e2 !=0)=false:=by rw [bne,Ad];rfl
 rw [aq ce] at H
 clear ce;obtain ⟨rt,hr,H⟩:=bR H;have HG:=aa.mk H;clear H
 (try dsimp only)
 go_wp2_with (refine Kd.bU rfl (bM rfl rfl aZ.out Try.underlying73 rfl eN.out) ?_)
 refine (j9.calls k us ud uc Aub cub ub a t 17 i fl cr s d Ao co o Ab cb b rt _ (Kd.ay iu.out).2.2 (Kd.ay iu.out).2.1 (Kd.ay bL.out).2.2 (Kd.ay bL.out).2.1 (Kd.ay bI.out).2.2 (Kd.ay bI.out).2.1 (by unfold j9.f;rw [hr];rfl)).mono ?_;rintro ev w7 ⟨rfl,hb⟩;clear hr;have ai:=hb;replace HB:=mB HB ai;replace bg:=mX bg ai;replace br:=mX br ai;replace cX:=mX cX ai;replace bL:=mR bL ai;replace bI:=mR bI ai;replace aZ:=mX aZ ai;replace iu:=mR iu ai;clear ai;clear hb;have H:=HG.out;clear HG
 cases rt with
 |false=>
  rw [av (by decide)] at H
  obtain rfl:=cN H
  (try dsimp only)
  go_upto_region 9 with (fail)
  refine dB (n:=6) (S:=fun w'=>w'.heap[gn]?=some (.cells lN 76 (0,0))) (ds:=[]) #[false,false,false,false,false,false] (by kernel_rfl) rfl rfl cX.out (fun hHeld=> ?_);refine bF look.R9.tab look.R9.bits (fun ax eu=> ?_);have ai:=bf (Below.refl w7.heap.size w7);replace HB:=mB HB ai;replace bg:=mX bg ai;replace br:=mX br ai;replace cX:=mX cX ai;replace bL:=mR bL ai;replace bI:=mR bI ai;replace aZ:=mX aZ ai;replace iu:=mR iu ai;clear ai;generalize w7.drew=w8 at HB bg br cX bL bI aZ iu hHeld|-
  refine pz 0 41 ax ?_;refine tv 1 42 (.agg lN) ax eu hHeld ?_ ?_
  ·intro w' s0
   exact bM (p:= .tmp 6) (ty:=76) (by rfl) (by rfl) s0 mY (by rfl) iF.out
  refine nz 42 ?_;refine oz 2 (none) ax (fun K hK=> ?_);refine cZ (by rfl) (by rfl) rfl rfl rfl bg.out eN.out rfl (by simp [Value.oneCell']) ?_;intro w9 hs_ ag;replace br:=oX ag br bg (by decide);replace cX:=oX ag cX bg (by decide);replace bL:=oR ag bL bg (by decide);replace bI:=oR ag bI bg (by decide);replace aZ:=oN ag aZ (cg cu);replace iu:=oR ag iu bg (by decide);replace HB:=oB ag HB kM;clear ag;replace bg:=aa.mk hs_;clear hs_;refine hK.out _ _ cX.out (fun hHeld=> ?_);clear hK K;refine pz 3 3 ax ?_;refine oz 4 (none) ax (fun K hK=> ?_);refine cZ (by rfl) (by rfl) rfl rfl rfl br.out iF.out rfl (by simp [Value.oneCell']) ?_;intro ku hs_ ag;replace bg:=oX ag bg br (by decide);replace cX:=oN ag cX (cg fP)
  replace bL:=oR ag bL br (by decide);replace bI:=oR ag bI br (by decide);replace aZ:=oX ag aZ br (by decide);replace iu:=oR ag iu br (by decide);replace HB:=oB ag HB mN;clear ag;replace br:=aa.mk hs_;clear hs_;refine hK.out _ _ cX.out (fun hHeld=> ?_);clear hK K;refine pz 5 5 ax ?_;refine dz ax ?_;clear ax eu hHeld
  (try dsimp only)
  go_wp2
  (try simp only [Exit.inBlock,Exit.then])
  refine bodyPost_ret (ia rfl _ _ _ _ _ _ _ _ (0,0) (0,0) _ _ rfl bg.out iW rfl eN.out rfl br.out mY rfl iF.out) rfl ?_;exact ⟨_,_,_,_,rfl,Kd.bX _ _ _ _ _,Kd.bX _ _ _ _ _,rfl,Kd.bX _ _ _ _ _,HB.out⟩
 |true=>
  rw [aq rfl] at H
  have HG:=aa.mk H;clear H
  (try dsimp only)
  have oL:=cz aZ.out 2 rfl;have uG:=cz aZ.out 6 rfl;have vM:=cz aZ.out 7 rfl
  go_upto_region 11 with (((refine fc rfl rfl rfl rfl rfl iF.out rfl (by simp [Value.oneCell']) ?_);intro fU gV dg))
  clear oL uG vM;revert fU gV dg;intro w8 gV dg;have bS:aa (w8.heap[w7.heap.size]?=some (.cells #[.int .u8 17,.int .u32 s,.int .u16 0,.int .u32 d,.int .u16 0,.int .u8 0,.slice none 0 0] 76 (0,0))):=⟨gV⟩
  have mO:=yY HB;have bY:=cW br;have jz:=cW cX;have ai:=dg;replace HB:=mB HB ai;replace bg:=mX bg ai;replace br:=mX br ai;replace cX:=mX cX ai;replace bL:=mR bL ai;replace bI:=mR bI ai;replace aZ:=mX aZ ai;replace iu:=mR iu ai;clear ai;clear gV dg;generalize w7.heap.size=gf at bS mO bY jz|-
  go_wp2_with fail
  refine (mL.calls us ud uc Aub cub ub 17 _ (Kd.ay iu.out).2.2 (Kd.ay iu.out).2.1 rfl).mono ?_;rintro ev w9 ⟨rfl,hb⟩;have ai:=hb;replace HB:=mB HB ai;replace bg:=mX bg ai;replace br:=mX br ai;replace cX:=mX cX ai;replace bL:=mR bL ai;replace bI:=mR bI ai;replace aZ:=mX aZ ai;replace iu:=mR iu ai;replace bS:=mX bS ai;clear ai;clear hb
  (try dsimp only)
  go_upto_region 21 with (((refine fc rfl rfl rfl rfl rfl NH.out rfl (by simp [Value.oneCell']) ?_);intro fU gV dg))
  revert fU gV dg;intro ku gV dg;have cM:aa (ku.heap[w9.heap.size]?=some (.cells #[.int .u16 us,.int .u16 ud,.int .u16 uc,.slice Aub ub.length cub] 179 (0,0))):=⟨gV⟩
  have sW:=yY HB;have ai:=dg;replace HB:=mB HB ai;replace bg:=mX bg ai;replace br:=mX br ai;replace cX:=mX cX ai;replace bL:=mR bL ai;replace bI:=mR bI ai;replace aZ:=mX aZ ai;replace iu:=mR iu ai;replace bS:=mX bS ai;clear ai;clear gV dg;generalize w9.heap.size=gu at cM sW|-
  refine dB (n:=12) (S:=fun w'=>w'.cell? ⟨gu,0,none⟩=some (.int .u16 us) /\ w'.cell? ⟨gu,1,none⟩=some (.int .u16 ud)) (ds:=[]) #[false,false,false,false,false,false,false,false,false,false,false,false] (by kernel_rfl) rfl rfl ⟨((aN cM.out 0).trans rfl),((aN cM.out 1).trans rfl)⟩ (fun hHeld=> ?_);refine bF look.FL.tab look.FL.bits (fun ax eu=> ?_);have ai:=bf (Below.refl ku.heap.size ku);replace HB:=mB HB ai;replace bg:=mX bg ai;replace br:=mX br ai;replace cX:=mX cX ai;replace bL:=mR bL ai;replace bI:=mR bI ai;replace aZ:=mX aZ ai;replace iu:=mR iu ai;replace bS:=mX bS ai;replace cM:=mX cM ai;clear ai;generalize ku.drew=sn at HB bg br cX bL bI aZ iu bS cM hHeld|-
  refine pz 0 94 ax ?_;refine pz 1 95 ax ?_;refine pz 3 97 ax ?_;refine pz 4 98 ax ?_;refine tz 2 96 ax eu hHeld ?_;refine pz 6 100 ax ?_;refine pz 7 101 ax ?_;refine tz 5 99 ax eu hHeld ?_;refine oz 8 (none) ax (fun K hK=> ?_);refine iy (i:=2) (v:= .int .u16 us) (cs':= #[.int .u8 17,.int .u32 s,.int .u16 us,.int .u32 d,.int .u16 0,.int .u8 0,.slice none 0 0]) (by rfl) (by rfl) bS.out rfl (by (have m_:=(aN bS.out 2).trans (rfl:_=some (.int .u16 0:Value)));(have pU:=ae bS.out 2);first|(go_simp;done)|(go_simp;rfl)) ?_;intro nP hs_ ag;replace bg:=oX ag bg bS (by decide);replace br:=oN ag br bY;replace cX:=oN ag cX jz;replace bL:=oR ag bL bS (by decide);replace bI:=oR ag bI bS (by decide);replace aZ:=oX ag aZ bS (by decide)
  replace iu:=oR ag iu bS (by decide);replace cM:=oX ag cM bS (by decide);replace HB:=oB ag HB mO;clear ag;replace bS:=aa.mk hs_;clear hs_;refine hK.out _ _ ⟨((aN cM.out 0).trans rfl),((aN cM.out 1).trans rfl)⟩ (fun hHeld=> ?_);clear hK K;refine pz 9 102 ax ?_;refine pz 10 103 ax ?_;refine oz 11 (none) ax (fun K hK=> ?_);refine iy (i:=4) (v:= .int .u16 ud) (cs':= #[.int .u8 17,.int .u32 s,.int .u16 us,.int .u32 d,.int .u16 ud,.int .u8 0,.slice none 0 0]) (by rfl) (by rfl) bS.out rfl (by (have m_:=(aN bS.out 4).trans (rfl:_=some (.int .u16 0:Value)));(have pU:=ae bS.out 4);first|(go_simp;done)|(go_simp;rfl)) ?_;intro yD hs_ ag;replace bg:=oX ag bg bS (by decide);replace br:=oN ag br bY;replace cX:=oN ag cX jz
  replace bL:=oR ag bL bS (by decide);replace bI:=oR ag bI bS (by decide);replace aZ:=oX ag aZ bS (by decide);replace iu:=oR ag iu bS (by decide);replace cM:=oX ag cM bS (by decide);replace HB:=oB ag HB mO;clear ag;replace bS:=aa.mk hs_;clear hs_;refine hK.out _ _ ⟨((aN cM.out 0).trans rfl),((aN cM.out 1).trans rfl)⟩ (fun hHeld=> ?_);clear hK K;refine dz ax ?_;clear ax eu hHeld;have H:=HG.out;clear HG;obtain rfl:=cN H
  (try dsimp only)
  go_upto_region 25 with (fail)
  refine dB (n:=7) (S:=fun w'=>w'.heap[gp]?=some (.cells #[.int .u8 a,.int .u8 t,.int .u8 17,.int .u16 i,.int .u8 fl,.int .u16 cr,.int .u32 s,.int .u32 d,.slice Ao o.length co,.slice Ab b.length cb] 73 (0,0)) /\ w'.heap[gf]?=some (.cells #[.int .u8 17,.int .u32 s,.int .u16 us,.int .u32 d,.int .u16 ud,.int .u8 0,.slice none 0 0] 76 (0,0))) (ds:=[]) #[false,false,false,false,false,false,false] (by kernel_rfl) rfl rfl ⟨aZ.out,bS.out⟩ (fun hHeld=> ?_);refine bF look.GZ.tab look.GZ.bits (fun ax eu=> ?_);have ai:=bf (Below.refl yD.heap.size yD);replace HB:=mB HB ai;replace bg:=mX bg ai;replace br:=mX br ai;replace cX:=mX cX ai;replace bL:=mR bL ai;replace bI:=mR bI ai;replace aZ:=mX aZ ai;replace iu:=mR iu ai;replace bS:=mX bS ai;replace cM:=mX cM ai;clear ai
  generalize yD.drew=qY at HB bg br cX bL bI aZ iu bS cM hHeld|-
  refine pz 1 123 ax ?_;refine tv 0 122 (.agg #[.int .u8 a,.int .u8 t,.int .u8 17,.int .u16 i,.int .u8 fl,.int .u16 cr,.int .u32 s,.int .u32 d,.slice Ao o.length co,.slice Ab b.length cb]) ax eu hHeld ?_ ?_
  ·intro w' s0
   obtain ⟨s0,s1⟩:=s0;exact bM (p:= .tmp 7) (ty:=73) (by rfl) (by rfl) s0 iW (by rfl) eN.out
  refine nz 122 ?_;refine tv 2 124 (.agg #[.int .u8 17,.int .u32 s,.int .u16 us,.int .u32 d,.int .u16 ud,.int .u8 0,.slice none 0 0]) ax eu hHeld ?_ ?_
  ·intro w' s0
   obtain ⟨s0,s1⟩:=s0;exact bM (p:= .tmp 10) (ty:=76) (by rfl) (by rfl) s1 mY (by rfl) iF.out
  refine nz 124 ?_;refine oz 3 (none) ax (fun K hK=> ?_);refine cZ (by rfl) (by rfl) rfl rfl rfl bg.out eN.out rfl (by simp [Value.oneCell']) ?_;intro BX hs_ ag;replace br:=oX ag br bg (by decide);replace cX:=oX ag cX bg (by decide);replace bL:=oR ag bL bg (by decide);replace bI:=oR ag bI bg (by decide);replace aZ:=oN ag aZ (cg cu);replace iu:=oR ag iu bg (by decide);replace bS:=oX ag bS bg (by decide);replace cM:=oX ag cM bg (by decide);replace HB:=oB ag HB kM;clear ag;replace bg:=aa.mk hs_;clear hs_;refine hK.out _ _ ⟨aZ.out,bS.out⟩ (fun hHeld=> ?_);clear hK K;refine pz 4 3 ax ?_;refine oz 5 (none) ax (fun K hK=> ?_);refine cZ (by rfl) (by rfl) rfl rfl rfl br.out iF.out rfl (by simp [Value.oneCell']) ?_;intro qJ hs_ ag
  replace bg:=oX ag bg br (by decide);replace cX:=oN ag cX (cg fP);replace bL:=oR ag bL br (by decide);replace bI:=oR ag bI br (by decide);replace aZ:=oX ag aZ br (by decide);replace iu:=oR ag iu br (by decide);replace bS:=oN ag bS (cg bY);replace cM:=oX ag cM br (by decide);replace HB:=oB ag HB mN;clear ag;replace br:=aa.mk hs_;clear hs_;refine hK.out _ _ ⟨aZ.out,bS.out⟩ (fun hHeld=> ?_);clear hK K;refine pz 6 5 ax ?_;refine dz ax ?_;clear ax eu hHeld
  (try dsimp only)
  go_wp2
  (try simp only [Exit.inBlock,Exit.then])
  refine bodyPost_ret (ia rfl _ _ _ _ _ _ _ _ (0,0) (0,0) _ _ rfl bg.out iW rfl eN.out rfl br.out mY rfl iF.out) rfl ?_;exact ⟨_,_,_,_,rfl,bL.out,bI.out,⟨_,rfl,iu.out⟩,Kd.bX _ _ _ _ _,HB.out⟩
attribute [local go_sem] sB
attribute [local go_sem] sC
attribute [local go_sem] sD
attribute [local go_sem] sE
attribute [local go_sem] sG
attribute [local go_sem] sH
attribute [local go_sem] sI
attribute [local go_sem] sJ
attribute [local go_sem] sK
attribute [local go_sem] sL
attribute [local go_sem] sM
attribute [local go_sem] sN
theorem look.Acy (k:Nat) (A:Option Addr) (c:Nat) (l:List Int) (a t i fl cr s d:Int) (o b:List Int) (r:LK) (w:World) (hC:Kd.C (Kd.int .u8) w A l.length l) (hL:l.length<=c) (hP:da.f k l=some (a,t,6,i,fl,cr,s,d,o,b,0)) (h:rS k a t i fl cr s d o b=some r):
  Calls Try.prog 69 #[.slice A l.length c] w fun e w'=>r.Post w.heap.size w e w':=by
 have iW:=Try.underlying73;have mY:=Try.underlying76;have zO:=Try.underlying83;have uC:=Try.underlying137;have oA:=Try.underlying101;have Js:=Try.underlying179;have JB:=Try.underlying181;have JH:=Try.underlying183;have HB:=gI w;have HC:=aa.mk hC;have HL:=aa.mk hL;have HP:=aa.mk hP;have HF:=aa.mk h;have eN:aa ((Try.prog.info? 73).map (·.size)=some 10):=⟨by kernel_rfl⟩
 have iF:aa ((Try.prog.info? 76).map (·.size)=some 7):=⟨by kernel_rfl⟩
 have yj:aa ((Try.prog.info? 83).map (·.size)=some 4):=⟨by kernel_rfl⟩
 have mz:aa ((Try.prog.info? 137).map (·.size)=some 10):=⟨by kernel_rfl⟩
 have jD:aa ((Try.prog.info? 101).map (·.size)=some 5):=⟨by kernel_rfl⟩
 have NH:aa ((Try.prog.info? 179).map (·.size)=some 4):=⟨by kernel_rfl⟩
 have NI:aa ((Try.prog.info? 181).map (·.size)=some 10):=⟨by kernel_rfl⟩
 have SY:aa ((Try.prog.info? 183).map (·.size)=some 5):=⟨by kernel_rfl⟩
 clear hC hL hP h
 go_enter Try.func69,Try.ntmps69
 go_upto_region 2 with (first|((with_reducible refine aA (N:=2) rfl ?_);refine aC ?fT (N:=2) ?iB (cs:=jL) (t:=73) ?eY ?_;(case iB=>rfl);(case fT=>rfl);(case eY=>first|(go_simp;done)|(go_simp;rfl));intro gi bV w1 bw cB;have kM:=aa.mk (show w.heap.size<=gi by rw [bV];exact af HB.out);have bg:=aa.mk bw;have ai:=cB;replace HB:=mB HB ai;clear ai;clear bV bw cB)|((with_reducible refine aA (N:=4) rfl ?_);refine aC ?fT (N:=4) ?iB (cs:=lN) (t:=76) ?eY ?_;(case iB=>rfl);(case fT=>rfl);(case eY=>first|(go_simp;done)|(go_simp;rfl));intro gq bV w2 bw cB;have mN:=aa.mk (show w.heap.size<=gq by rw [bV];exact af HB.out);have br:=aa.mk bw;have ai:=cB;replace HB:=mB HB ai;replace bg:=mX bg ai;clear ai;clear bV bw cB)|((refine fc rfl rfl rfl rfl rfl iF.out rfl (by simp [Value.oneCell']) ?_);intro fU gV dg))
 revert fU gV dg;intro w3 gV dg;have cX:aa (w3.heap[w2.heap.size]?=some (.cells lN 76 (0,0))):=⟨gV⟩
 have Cf:=yY HB;have fP:=cW br;have ai:=dg;replace HB:=mB HB ai;replace bg:=mX bg ai;replace br:=mX br ai;clear ai;clear gV dg;generalize w2.heap.size=gn at cX Cf fP|-
 go_wp2_with fail
 refine (da.calls k A c l a t 6 i fl cr s d o b 0 _ (Kd.aW HC.out HB.out) HL.out HP.out).mono ?_;rintro ev w4 ⟨vo,vb,rfl,ho,qd,hb⟩;have bL:=lO ho HB;obtain ⟨Ao,co,rfl,_,_⟩:=Kd.cj ho;clear ho;have bI:=lO qd HB;obtain ⟨Ab,cb,rfl,_,_⟩:=Kd.cj qd;clear qd;have ai:=hb;replace HB:=mB HB ai;replace bg:=mX bg ai;replace br:=mX br ai;replace cX:=mX cX ai;clear ai;clear hb HP HC HL
 (try dsimp only)
 go_upto_region 3 with (((refine fc rfl rfl rfl rfl rfl eN.out rfl (by simp [Value.oneCell']) ?_);intro fU gV dg))
 revert fU gV dg;intro w5 gV dg;have aZ:aa (w5.heap[w4.heap.size]?=some (.cells #[.int .u8 a,.int .u8 t,.int .u8 6,.int .u16 i,.int .u8 fl,.int .u16 cr,.int .u32 s,.int .u32 d,.slice Ao o.length co,.slice Ab b.length cb] 73 (0,0))):=⟨gV⟩
 have lV:=yY HB;have cu:=cW bg;have ai:=dg;replace HB:=mB HB ai;replace bg:=mX bg ai;replace br:=mX br ai;replace cX:=mX cX ai;replace bL:=mR bL ai;replace bI:=mR bI ai;clear ai;clear gV dg;generalize w4.heap.size=gp at aZ lV cu|-
 have H:rS k a t i fl cr s d o b=some r:=HF.out;clear HF;unfold rS at H
 obtain ⟨⟨ts,td,tq,ta,tf,tw,tc,tu,tJ,tb,e2⟩,hp,H⟩:=bR H;dsimp only at H
 have HG:=aa.mk H;clear H;have Wc:((0:Int)==0)=true:=rfl;have he2:((0:Int) !=0)=false:=rfl
 (try dsimp only)
 go_wp2_with (refine Kd.bU rfl (bM rfl rfl aZ.out Try.underlying73 rfl eN.out) ?_)
 clear Wc he2;refine (oK.Abb a t i fl cr s d Ao o.length co Ab cb b ts td tq ta tf tw tc tu e2 tJ tb _ (Kd.ay bI.out).2.2 (Kd.ay bI.out).2.1 hp).mono ?_;rintro ev w6 ⟨Apn,vtb,rfl,L9,htb,hb⟩;clear hp;have eZ:=lO L9 HB;obtain ⟨Ps,Pt,rfl,_,_⟩:=Kd.cj L9;clear L9;have ic:=lO htb HB;obtain ⟨Atb,ctb,rfl,_,_⟩:=Kd.cj htb;clear htb;have ai:=hb;replace HB:=mB HB ai;replace bg:=mX bg ai;replace br:=mX br ai;replace cX:=mX cX ai;replace bL:=mR bL ai;replace bI:=mR bI ai;replace aZ:=mX aZ ai;clear ai;clear hb;have H:=HG.out;clear HG
 by_cases ce:e2=0
 rotate_left
 ·have Ad:(e2==0)=false:=fq ce
  have G1:(e2 !=0)=true:=bne_iff_ne.2 ce;rw [av ce] at H
  clear ce;obtain rfl:=cN H
  (try dsimp only)
  go_upto_region 7 with (fail)
  refine dB (n:=7) (S:=fun w'=>w'.heap[gn]?=some (.cells lN 76 (0,0))) (ds:=[]) #[false,false,false,false,false,false,false] (by kernel_rfl) rfl rfl cX.out (fun hHeld=> ?_);refine bF look.R7.tab look.R7.bits (fun ax eu=> ?_);have ai:=bf (Below.refl w6.heap.size w6);replace HB:=mB HB ai;replace bg:=mX bg ai;replace br:=mX br ai;replace cX:=mX cX ai;replace bL:=mR bL ai;replace bI:=mR bI ai;replace aZ:=mX aZ ai;replace eZ:=mR eZ ai;replace ic:=mR ic ai;clear ai;generalize w6.drew=w7 at HB bg br cX bL bI aZ eZ ic hHeld|-
  refine pz 0 34 ax ?_;refine pz 2 36 ax ?_;refine tv 1 35 (.agg lN) ax eu hHeld ?_ ?_
  ·intro w' s0
   exact bM (p:= .tmp 6) (ty:=76) (by rfl) (by rfl) s0 mY (by rfl) iF.out
  refine nz 35 ?_;refine oz 3 (none) ax (fun K hK=> ?_);refine cZ (by rfl) (by rfl) rfl rfl rfl bg.out eN.out rfl (by simp [Value.oneCell']) ?_;intro w8 hs_ ag;replace br:=oX ag br bg (by decide);replace cX:=oX ag cX bg (by decide);replace bL:=oR ag bL bg (by decide);replace bI:=oR ag bI bg (by decide);replace aZ:=oN ag aZ (cg cu);replace eZ:=oR ag eZ bg (by decide);replace ic:=oR ag ic bg (by decide);replace HB:=oB ag HB kM;clear ag;replace bg:=aa.mk hs_;clear hs_;refine hK.out _ _ cX.out (fun hHeld=> ?_);clear hK K;refine pz 4 3 ax ?_;refine oz 5 (none) ax (fun K hK=> ?_);refine cZ (by rfl) (by rfl) rfl rfl rfl br.out iF.out rfl (by simp [Value.oneCell']) ?_;intro w9 hs_ ag;replace bg:=oX ag bg br (by decide)
  replace cX:=oN ag cX (cg fP);replace bL:=oR ag bL br (by decide);replace bI:=oR ag bI br (by decide);replace aZ:=oX ag aZ br (by decide);replace eZ:=oR ag eZ br (by decide);replace ic:=oR ag ic br (by decide);replace HB:=oB ag HB mN;clear ag;replace br:=aa.mk hs_;clear hs_;refine hK.out _ _ cX.out (fun hHeld=> ?_);clear hK K;refine pz 6 5 ax ?_;refine dz ax ?_;clear ax eu hHeld
  (try dsimp only)
  go_wp2
  (try simp only [Exit.inBlock,Exit.then])
  refine bodyPost_ret (ia rfl _ _ _ _ _ _ _ _ (0,0) (0,0) _ _ rfl bg.out iW rfl eN.out rfl br.out mY rfl iF.out) rfl ?_;exact ⟨_,_,_,_,rfl,Kd.bX _ _ _ _ _,Kd.bX _ _ _ _ _,rfl,Kd.bX _ _ _ _ _,HB.out⟩
 have Ad:(e2==0)=true:=fF ce
 have G1:(e2 !=0)=false:=by rw [bne,Ad];rfl
 rw [aq ce] at H
 clear ce;obtain ⟨rt,hr,H⟩:=bR H;have HG:=aa.mk H;clear H
 (try dsimp only)
 go_wp2_with (refine Kd.bU rfl (bM rfl rfl aZ.out Try.underlying73 rfl eN.out) ?_)
 refine (kI.calls k ts td tq ta tf tw tc tu Ps Pt tJ Atb ctb tb a t 6 i fl cr s d Ao co o Ab cb b rt _ (Kd.ay eZ.out).2.2 (Kd.ay eZ.out).2.1 (Kd.ay ic.out).2.2 (Kd.ay ic.out).2.1 (Kd.ay bL.out).2.2 (Kd.ay bL.out).2.1 (Kd.ay bI.out).2.2 (Kd.ay bI.out).2.1 (by unfold kI.f;rw [hr];rfl)).mono ?_;rintro ev w7 ⟨rfl,hb⟩;clear hr;have ai:=hb;replace HB:=mB HB ai;replace bg:=mX bg ai;replace br:=mX br ai;replace cX:=mX cX ai;replace bL:=mR bL ai;replace bI:=mR bI ai;replace aZ:=mX aZ ai;replace eZ:=mR eZ ai;replace ic:=mR ic ai;clear ai;clear hb;have H:=HG.out;clear HG
 cases rt with
 |false=>
  rw [av (by decide)] at H
  obtain rfl:=cN H
  (try dsimp only)
  go_upto_region 9 with (fail)
  refine dB (n:=6) (S:=fun w'=>w'.heap[gn]?=some (.cells lN 76 (0,0))) (ds:=[]) #[false,false,false,false,false,false] (by kernel_rfl) rfl rfl cX.out (fun hHeld=> ?_);refine bF look.R9.tab look.R9.bits (fun ax eu=> ?_);have ai:=bf (Below.refl w7.heap.size w7);replace HB:=mB HB ai;replace bg:=mX bg ai;replace br:=mX br ai;replace cX:=mX cX ai;replace bL:=mR bL ai;replace bI:=mR bI ai;replace aZ:=mX aZ ai;replace eZ:=mR eZ ai;replace ic:=mR ic ai;clear ai;generalize w7.drew=w8 at HB bg br cX bL bI aZ eZ ic hHeld|-
  refine pz 0 41 ax ?_;refine tv 1 42 (.agg lN) ax eu hHeld ?_ ?_
  ·intro w' s0
   exact bM (p:= .tmp 6) (ty:=76) (by rfl) (by rfl) s0 mY (by rfl) iF.out
  refine nz 42 ?_;refine oz 2 (none) ax (fun K hK=> ?_);refine cZ (by rfl) (by rfl) rfl rfl rfl bg.out eN.out rfl (by simp [Value.oneCell']) ?_;intro w9 hs_ ag;replace br:=oX ag br bg (by decide);replace cX:=oX ag cX bg (by decide);replace bL:=oR ag bL bg (by decide);replace bI:=oR ag bI bg (by decide);replace aZ:=oN ag aZ (cg cu);replace eZ:=oR ag eZ bg (by decide);replace ic:=oR ag ic bg (by decide);replace HB:=oB ag HB kM;clear ag;replace bg:=aa.mk hs_;clear hs_;refine hK.out _ _ cX.out (fun hHeld=> ?_);clear hK K;refine pz 3 3 ax ?_;refine oz 4 (none) ax (fun K hK=> ?_);refine cZ (by rfl) (by rfl) rfl rfl rfl br.out iF.out rfl (by simp [Value.oneCell']) ?_;intro ku hs_ ag;replace bg:=oX ag bg br (by decide)
  replace cX:=oN ag cX (cg fP);replace bL:=oR ag bL br (by decide);replace bI:=oR ag bI br (by decide);replace aZ:=oX ag aZ br (by decide);replace eZ:=oR ag eZ br (by decide);replace ic:=oR ag ic br (by decide);replace HB:=oB ag HB mN;clear ag;replace br:=aa.mk hs_;clear hs_;refine hK.out _ _ cX.out (fun hHeld=> ?_);clear hK K;refine pz 5 5 ax ?_;refine dz ax ?_;clear ax eu hHeld
  (try dsimp only)
  go_wp2
  (try simp only [Exit.inBlock,Exit.then])
  refine bodyPost_ret (ia rfl _ _ _ _ _ _ _ _ (0,0) (0,0) _ _ rfl bg.out iW rfl eN.out rfl br.out mY rfl iF.out) rfl ?_;exact ⟨_,_,_,_,rfl,Kd.bX _ _ _ _ _,Kd.bX _ _ _ _ _,rfl,Kd.bX _ _ _ _ _,HB.out⟩
 |true=>
  rw [aq rfl] at H
  have HG:=aa.mk H;clear H
  (try dsimp only)
  have oL:=cz aZ.out 2 rfl;have uG:=cz aZ.out 6 rfl;have vM:=cz aZ.out 7 rfl
  go_upto_region 11 with (((refine fc rfl rfl rfl rfl rfl iF.out rfl (by simp [Value.oneCell']) ?_);intro fU gV dg))
  clear oL uG vM;revert fU gV dg;intro w8 gV dg;have bS:aa (w8.heap[w7.heap.size]?=some (.cells #[.int .u8 6,.int .u32 s,.int .u16 0,.int .u32 d,.int .u16 0,.int .u8 0,.slice none 0 0] 76 (0,0))):=⟨gV⟩
  have mO:=yY HB;have bY:=cW br;have jz:=cW cX;have ai:=dg;replace HB:=mB HB ai;replace bg:=mX bg ai;replace br:=mX br ai;replace cX:=mX cX ai;replace bL:=mR bL ai;replace bI:=mR bI ai;replace aZ:=mX aZ ai;replace eZ:=mR eZ ai;replace ic:=mR ic ai;clear ai;clear gV dg;generalize w7.heap.size=gf at bS mO bY jz|-
  go_wp2_with fail
  refine (nf.calls ts td tq ta tf tw tc tu Ps Pt tJ Atb ctb tb 6 _ (Kd.ay eZ.out).2.2 (Kd.ay eZ.out).2.1 (Kd.ay ic.out).2.2 (Kd.ay ic.out).2.1 rfl).mono ?_;rintro ev w9 ⟨rfl,hb⟩;have ai:=hb;replace HB:=mB HB ai;replace bg:=mX bg ai;replace br:=mX br ai;replace cX:=mX cX ai;replace bL:=mR bL ai;replace bI:=mR bI ai;replace aZ:=mX aZ ai;replace eZ:=mR eZ ai;replace ic:=mR ic ai;replace bS:=mX bS ai;clear ai;clear hb
  (try dsimp only)
  go_upto_region 24 with (((refine fc rfl rfl rfl rfl rfl NI.out rfl (by simp [Value.oneCell']) ?_);intro fU gV dg))
  revert fU gV dg;intro ku gV dg;have cM:aa (ku.heap[w9.heap.size]?=some (.cells #[.int .u16 ts,.int .u16 td,.int .u32 tq,.int .u32 ta,.int .u8 tf,.int .u16 tw,.int .u16 tc,.int .u16 tu,.slice Ps tJ.length Pt,.slice Atb tb.length ctb] 181 (0,0))):=⟨gV⟩
  have sW:=yY HB;have ai:=dg;replace HB:=mB HB ai;replace bg:=mX bg ai;replace br:=mX br ai;replace cX:=mX cX ai;replace bL:=mR bL ai;replace bI:=mR bI ai;replace aZ:=mX aZ ai;replace eZ:=mR eZ ai;replace ic:=mR ic ai;replace bS:=mX bS ai;clear ai;clear gV dg;generalize w9.heap.size=gu at cM sW|-
  refine dB (n:=17) (S:=fun w'=>w'.cell? ⟨gu,0,none⟩=some (.int .u16 ts) /\ w'.cell? ⟨gu,1,none⟩=some (.int .u16 td) /\ w'.cell? ⟨gu,4,none⟩=some (.int .u8 tf)) (ds:=[]) #[false,false,false,false,false,false,false,false,false,false,false,false,false,false,false,false,false] (by kernel_rfl) rfl rfl ⟨((aN cM.out 0).trans rfl),((aN cM.out 1).trans rfl),((aN cM.out 4).trans rfl)⟩ (fun hHeld=> ?_);refine bF look.R24.tab look.R24.bits (fun ax eu=> ?_);have ai:=bf (Below.refl ku.heap.size ku);replace HB:=mB HB ai;replace bg:=mX bg ai;replace br:=mX br ai;replace cX:=mX cX ai;replace bL:=mR bL ai;replace bI:=mR bI ai;replace aZ:=mX aZ ai;replace eZ:=mR eZ ai;replace ic:=mR ic ai;replace bS:=mX bS ai;replace cM:=mX cM ai;clear ai
  generalize ku.drew=sn at HB bg br cX bL bI aZ eZ ic bS cM hHeld|-
  refine pz 0 108 ax ?_;refine pz 1 109 ax ?_;refine pz 3 111 ax ?_;refine pz 4 112 ax ?_;refine pz 6 114 ax ?_;refine pz 7 115 ax ?_;refine tz 2 110 ax eu hHeld ?_;refine pz 9 117 ax ?_;refine pz 10 118 ax ?_;refine tz 5 113 ax eu hHeld ?_;refine tz 8 116 ax eu hHeld ?_;refine oz 11 (none) ax (fun K hK=> ?_);refine iy (i:=2) (v:= .int .u16 ts) (cs':= #[.int .u8 6,.int .u32 s,.int .u16 ts,.int .u32 d,.int .u16 0,.int .u8 0,.slice none 0 0]) (by rfl) (by rfl) bS.out rfl (by (have m_:=(aN bS.out 2).trans (rfl:_=some (.int .u16 0:Value)));(have pU:=ae bS.out 2);first|(go_simp;done)|(go_simp;rfl)) ?_;intro nP hs_ ag;replace bg:=oX ag bg bS (by decide);replace br:=oN ag br bY;replace cX:=oN ag cX jz;replace bL:=oR ag bL bS (by decide)
  replace bI:=oR ag bI bS (by decide);replace aZ:=oX ag aZ bS (by decide);replace eZ:=oR ag eZ bS (by decide);replace ic:=oR ag ic bS (by decide);replace cM:=oX ag cM bS (by decide);replace HB:=oB ag HB mO;clear ag;replace bS:=aa.mk hs_;clear hs_;refine hK.out _ _ ⟨((aN cM.out 0).trans rfl),((aN cM.out 1).trans rfl),((aN cM.out 4).trans rfl)⟩ (fun hHeld=> ?_);clear hK K;refine pz 12 119 ax ?_;refine pz 13 120 ax ?_;refine oz 14 (none) ax (fun K hK=> ?_)
  refine iy (i:=4) (v:= .int .u16 td) (cs':= #[.int .u8 6,.int .u32 s,.int .u16 ts,.int .u32 d,.int .u16 td,.int .u8 0,.slice none 0 0]) (by rfl) (by rfl) bS.out rfl (by (have m_:=(aN bS.out 4).trans (rfl:_=some (.int .u16 0:Value)));(have pU:=ae bS.out 4);first|(go_simp;done)|(go_simp;rfl)) ?_;intro yD hs_ ag;replace bg:=oX ag bg bS (by decide);replace br:=oN ag br bY;replace cX:=oN ag cX jz;replace bL:=oR ag bL bS (by decide);replace bI:=oR ag bI bS (by decide);replace aZ:=oX ag aZ bS (by decide);replace eZ:=oR ag eZ bS (by decide);replace ic:=oR ag ic bS (by decide);replace cM:=oX ag cM bS (by decide);replace HB:=oB ag HB mO;clear ag;replace bS:=aa.mk hs_;clear hs_
  refine hK.out _ _ ⟨((aN cM.out 0).trans rfl),((aN cM.out 1).trans rfl),((aN cM.out 4).trans rfl)⟩ (fun hHeld=> ?_);clear hK K;refine pz 15 121 ax ?_;refine oz 16 (none) ax (fun K hK=> ?_);refine iy (i:=5) (v:= .int .u8 tf) (cs':= #[.int .u8 6,.int .u32 s,.int .u16 ts,.int .u32 d,.int .u16 td,.int .u8 tf,.slice none 0 0]) (by rfl) (by rfl) bS.out rfl (by (have m_:=(aN bS.out 5).trans (rfl:_=some (.int .u8 0:Value)));(have pU:=ae bS.out 5);first|(go_simp;done)|(go_simp;rfl)) ?_;intro qY hs_ ag;replace bg:=oX ag bg bS (by decide);replace br:=oN ag br bY;replace cX:=oN ag cX jz;replace bL:=oR ag bL bS (by decide);replace bI:=oR ag bI bS (by decide);replace aZ:=oX ag aZ bS (by decide);replace eZ:=oR ag eZ bS (by decide)
  replace ic:=oR ag ic bS (by decide);replace cM:=oX ag cM bS (by decide);replace HB:=oB ag HB mO;clear ag;replace bS:=aa.mk hs_;clear hs_;refine hK.out _ _ ⟨((aN cM.out 0).trans rfl),((aN cM.out 1).trans rfl),((aN cM.out 4).trans rfl)⟩ (fun hHeld=> ?_);clear hK K;refine dz ax ?_;clear ax eu hHeld;have H:=HG.out;clear HG;obtain rfl:=cN H
  (try dsimp only)
  go_upto_region 25 with (fail)
  refine dB (n:=7) (S:=fun w'=>w'.heap[gp]?=some (.cells #[.int .u8 a,.int .u8 t,.int .u8 6,.int .u16 i,.int .u8 fl,.int .u16 cr,.int .u32 s,.int .u32 d,.slice Ao o.length co,.slice Ab b.length cb] 73 (0,0)) /\ w'.heap[gf]?=some (.cells #[.int .u8 6,.int .u32 s,.int .u16 ts,.int .u32 d,.int .u16 td,.int .u8 tf,.slice none 0 0] 76 (0,0))) (ds:=[]) #[false,false,false,false,false,false,false] (by kernel_rfl) rfl rfl ⟨aZ.out,bS.out⟩ (fun hHeld=> ?_);refine bF look.GZ.tab look.GZ.bits (fun ax eu=> ?_);have ai:=bf (Below.refl qY.heap.size qY);replace HB:=mB HB ai;replace bg:=mX bg ai;replace br:=mX br ai;replace cX:=mX cX ai;replace bL:=mR bL ai;replace bI:=mR bI ai;replace aZ:=mX aZ ai;replace eZ:=mR eZ ai;replace ic:=mR ic ai;replace bS:=mX bS ai
  replace cM:=mX cM ai;clear ai;generalize qY.drew=BX at HB bg br cX bL bI aZ eZ ic bS cM hHeld|-
  refine pz 1 123 ax ?_;refine tv 0 122 (.agg #[.int .u8 a,.int .u8 t,.int .u8 6,.int .u16 i,.int .u8 fl,.int .u16 cr,.int .u32 s,.int .u32 d,.slice Ao o.length co,.slice Ab b.length cb]) ax eu hHeld ?_ ?_
  ·intro w' s0
   obtain ⟨s0,s1⟩:=s0;exact bM (p:= .tmp 7) (ty:=73) (by rfl) (by rfl) s0 iW (by rfl) eN.out
  refine nz 122 ?_;refine tv 2 124 (.agg #[.int .u8 6,.int .u32 s,.int .u16 ts,.int .u32 d,.int .u16 td,.int .u8 tf,.slice none 0 0]) ax eu hHeld ?_ ?_
  ·intro w' s0
   obtain ⟨s0,s1⟩:=s0;exact bM (p:= .tmp 10) (ty:=76) (by rfl) (by rfl) s1 mY (by rfl) iF.out
  refine nz 124 ?_;refine oz 3 (none) ax (fun K hK=> ?_);refine cZ (by rfl) (by rfl) rfl rfl rfl bg.out eN.out rfl (by simp [Value.oneCell']) ?_;intro qJ hs_ ag;replace br:=oX ag br bg (by decide);replace cX:=oX ag cX bg (by decide);replace bL:=oR ag bL bg (by decide);replace bI:=oR ag bI bg (by decide);replace aZ:=oN ag aZ (cg cu);replace eZ:=oR ag eZ bg (by decide);replace ic:=oR ag ic bg (by decide);replace bS:=oX ag bS bg (by decide);replace cM:=oX ag cM bg (by decide);replace HB:=oB ag HB kM;clear ag;replace bg:=aa.mk hs_;clear hs_;refine hK.out _ _ ⟨aZ.out,bS.out⟩ (fun hHeld=> ?_);clear hK K;refine pz 4 3 ax ?_;refine oz 5 (none) ax (fun K hK=> ?_);refine cZ (by rfl) (by rfl) rfl rfl rfl br.out iF.out rfl (by simp [Value.oneCell']) ?_
  intro Fa hs_ ag;replace bg:=oX ag bg br (by decide);replace cX:=oN ag cX (cg fP);replace bL:=oR ag bL br (by decide);replace bI:=oR ag bI br (by decide);replace aZ:=oX ag aZ br (by decide);replace eZ:=oR ag eZ br (by decide);replace ic:=oR ag ic br (by decide);replace bS:=oN ag bS (cg bY);replace cM:=oX ag cM br (by decide);replace HB:=oB ag HB mN;clear ag;replace br:=aa.mk hs_;clear hs_;refine hK.out _ _ ⟨aZ.out,bS.out⟩ (fun hHeld=> ?_);clear hK K;refine pz 6 5 ax ?_;refine dz ax ?_;clear ax eu hHeld
  (try dsimp only)
  go_wp2
  (try simp only [Exit.inBlock,Exit.then])
  refine bodyPost_ret (ia rfl _ _ _ _ _ _ _ _ (0,0) (0,0) _ _ rfl bg.out iW rfl eN.out rfl br.out mY rfl iF.out) rfl ?_;exact ⟨_,_,_,_,rfl,bL.out,bI.out,⟨_,_,rfl,eZ.out,ic.out⟩,Kd.bX _ _ _ _ _,HB.out⟩
attribute [local go_sem] sB
attribute [local go_sem] sC
attribute [local go_sem] sD
attribute [local go_sem] sE
attribute [local go_sem] sG
attribute [local go_sem] sH
attribute [local go_sem] sI
attribute [local go_sem] sJ
attribute [local go_sem] sK
attribute [local go_sem] sL
attribute [local go_sem] sM
attribute [local go_sem] sN
theorem iQ.calls (k:Nat) (A:Option Addr) (c:Nat) (l:List Int) (r:LK) (w:World) (hC:Kd.C (Kd.int .u8) w A l.length l) (hL:l.length<=c) (h:iQ.f k l=some r):
  Calls Try.prog 69 #[.slice A l.length c] w fun e w'=>r.Post w.heap.size w e w':=by
 unfold iQ.f at h
 obtain ⟨⟨a,t,pr,i,fl,cr,s,d,o,b,e_⟩,hp,h⟩:=bR h;dsimp only at h
 by_cases he:e_=0
 rotate_left
 ·rw [av he] at h
  obtain rfl:=cN h;exact look.SZ k A c l a t pr i fl cr s d o b e_ w hC hL hp he
 rw [aq he] at h
 subst he
 by_cases Fc:pr=17
 ·rw [aq Fc] at h
  subst Fc;exact look.Acw k A c l a t i fl cr s d o b r w hC hL hp h
 rw [av Fc] at h
 by_cases h6:pr=6
 ·rw [aq h6] at h
  subst h6;exact look.Acy k A c l a t i fl cr s d o b r w hC hL hp h
 rw [av h6] at h
 by_cases h1:pr=1
 ·rw [aq h1] at h
  subst h1;exact look.G0 k A c l a t i fl cr s d o b r w hC hL hp h
 rw [av h1] at h
 obtain rfl:=cN h;exact look.S0 k A c l a t pr i fl cr s d o b w hC hL hp Fc h6 h1
attribute [local go_sem] dI dJ eI eJ cO cP dK dL
mutual
def eO.j0:Nat ->Int ->Bool ->Int ->Int ->Int ->Int ->Int ->Int ->Int ->Int ->List Int ->List Int ->Option (List Int×Int)
 |0,_,_,_,_,_,_,_,_,_,_,_,_=>none
 |k+1,x4,x15,CO,CP,CQ,Ae,Af,Ag,CS,CT,Ah,tU=>if x15=true then (some (([]:List Int),21)) else (if (tU.length:Int)>(wrap64 (65535 - x4)) then (some (([]:List Int),23)) else ((some (([CS,CT]:List Int):List Int)).bind fun my=>(eO.l0 k (([Go.bits .or .u8 64 ((wrap64 (Int.tdiv x4 4)) % 256),CO,((wrap64 (x4+(tU.length:Int))) / 256) % 256,(wrap64 (x4+(tU.length:Int))) % 256,(Ae / 256) % 256,(Ae) % 256,((Go.bits .or .u16 (IntKind.u16.wrap ((IntKind.u16.wrap (Af))*8192)) Ag) / 256) % 256,(Go.bits .or .u16 (IntKind.u16.wrap ((IntKind.u16.wrap (Af))*8192)) Ag) % 256,CP,CQ,0,0]:List Int)) my (my.length:Int) 0 CO CP CQ Ae Af Ag CS CT Ah tU)))
def eO.l0:Nat ->List Int ->List Int ->Int ->Int ->Int ->Int ->Int ->Int ->Int ->Int ->Int ->Int ->List Int ->List Int ->Option (List Int×Int)
 |0,_,_,_,_,_,_,_,_,_,_,_,_,_,_=>none
 |k+1,x7,x88,x89,Y6,CO,CP,CQ,Ae,Af,Ag,CS,CT,Ah,tU=>if Y6<x89 then (if 0<=Y6 then (if Y6<(x88.length:Int) then ((some (([((rd x88 Y6) / 16777216) % 256,((rd x88 Y6) / 65536) % 256,((rd x88 Y6) / 256) % 256,(rd x88 Y6) % 256]:List Int):List Int)).bind fun G3=>(if x7.length+G3.length<140737488355328 then (eO.l0 k (x7++G3) x88 x89 (wrap64 (Y6+1)) CO CP CQ Ae Af Ag CS CT Ah tU) else (none))) else (none)) else (none)) else (if x7.length+Ah.length<140737488355328 then ((some (x7++Ah:List Int)).bind fun pV=>((mK.f k pV).bind fun xy=>(if 10<(pV.length:Int) then (if 11<(pV.length:Int) then ((some ((pV.set (10:Int).toNat ((xy / 256) % 256)).set (11:Int).toNat ((xy) % 256):List Int)).bind fun zh=>(if zh.length+tU.length<140737488355328 then (some ((zh++tU),0)) else (none))) else (none)) else (none)))) else (none))
end
def eO.f (k:Nat) (aU:Int) (bh:Int) (bn:Int) (bu:Int) (dP:Int) (dR:Int) (dX:Int) (dY:Int) (bH:List Int) (cE:List Int):Option (List Int×Int):=if ((bH.length:Int) % 4)=0 then (if (bH.length:Int)>40 then (eO.j0 k (wrap64 (20+(bH.length:Int))) true aU bh bn bu dP dR dX dY bH cE) else (if dP>7 then (eO.j0 k (wrap64 (20+(bH.length:Int))) true aU bh bn bu dP dR dX dY bH cE) else (eO.j0 k (wrap64 (20+(bH.length:Int))) (decide (dR>8191)) aU bh bn bu dP dR dX dY bH cE))) else (eO.j0 k (wrap64 (20+(bH.length:Int))) true aU bh bn bu dP dR dX dY bH cE)
theorem eO.calls (k:Nat) (aU:Int) (bh:Int) (bn:Int) (bu:Int) (dP:Int) (dR:Int) (dX:Int) (dY:Int) (jq:Option Addr) (jr:Nat) (bH:List Int) (js:Option Addr) (ju:Nat) (cE:List Int) (r1:List Int) (r2:Int) (w:World) (tN:Kd.C (Kd.int .u8) w jq bH.length bH) (tO:bH.length<=jr) (tP:Kd.C (Kd.int .u8) w js cE.length cE) (tQ:cE.length<=ju) (h:eO.f k aU bh bn bu dP dR dX dY bH cE=some (r1,r2)):
  Calls Try.prog 71 #[.agg #[.int .u8 aU,.int .u8 bh,.int .u8 bn,.int .u16 bu,.int .u8 dP,.int .u16 dR,.int .u32 dX,.int .u32 dY,.slice jq bH.length jr,.slice js cE.length ju]] w fun e w'=>∃ oW:Value,e= .returned (.tuple #[oW,.int .i64 r2]) /\ Kd.R (Kd.int .u8) 5 w' w.heap.size (fun _=>True) oW r1 /\ Below w.heap.size w w':=by
 have iW:=Try.underlying73;have BI:=aa.mk tN;have JC:=aa.mk tO;clear tN tO;have BJ:=aa.mk tP;have JD:=aa.mk tQ;clear tP tQ;have HB:=gI w;have H:(if ((bH.length:Int) % 4)=0 then (if (bH.length:Int)>40 then (eO.j0 k (wrap64 (20+(bH.length:Int))) true aU bh bn bu dP dR dX dY bH cE) else (if dP>7 then (eO.j0 k (wrap64 (20+(bH.length:Int))) true aU bh bn bu dP dR dX dY bH cE) else (eO.j0 k (wrap64 (20+(bH.length:Int))) (decide (dR>8191)) aU bh bn bu dP dR dX dY bH cE))) else (eO.j0 k (wrap64 (20+(bH.length:Int))) true aU bh bn bu dP dR dX dY bH cE))=some (r1,r2):=h;clear h;have LO:=aa.mk H;clear H
 go_enter Try.func71,Try.ntmps71
 go_upto_region 2 with (first|((with_reducible refine aA (N:=1) rfl ?_);(try (refine eP (by rfl) ?_;dsimp only));refine aC ?hg (N:=1) ?hd (cs:= #[.int .u8 aU,.int .u8 bh,.int .u8 bn,.int .u16 bu,.int .u8 dP,.int .u16 dR,.int .u32 dX,.int .u32 dY,.slice jq bH.length jr,.slice js cE.length ju]) (t:=73) ?hr ?_;(case hd=>rfl);(case hg=>rfl);(case hr=>first|(go_simp;done)|(go_simp;rfl));intro jW hg w3 bJ hb;have aH:=aa.mk (au (bz HB) hb);have aK:=aa.mk (bJ);have bt:=aa.mk ((by rw [hg];exact (af (bz HB)):w.heap.size<=jW));have cC:=aa.mk ((by rw [hg];exact (af (bz HB)):w.heap.size<=jW));clear HB;have HB:=aH;have cv:=aK;have Ata:=bt;have Atc:=cC;clear aH aK bt cC;clear hb bJ hg;have pK:w3.cell? ⟨jW,0,none⟩=some (.int .u8 aU):=cz cv.out 0 rfl;have pL:w3.cell? ⟨jW,1,none⟩=some (.int .u8 bh):=cz cv.out 1 rfl;have pM:w3.cell? ⟨jW,2,none⟩=some (.int .u8 bn):=cz cv.out 2 rfl;have pN:w3.cell? ⟨jW,3,none⟩=some (.int .u16 bu):=cz cv.out 3 rfl;have uj:w3.cell? ⟨jW,4,none⟩=some (.int .u8 dP):=cz cv.out 4 rfl;have G4:w3.cell? ⟨jW,5,none⟩=some (.int .u16 dR):=cz cv.out 5 rfl;have G5:w3.cell? ⟨jW,6,none⟩=some (.int .u32 dX):=cz cv.out 6 rfl;have G6:w3.cell? ⟨jW,7,none⟩=some (.int .u32 dY):=cz cv.out 7 rfl;have G7:w3.cell? ⟨jW,8,none⟩=some (.slice jq bH.length jr):=cz cv.out 8 rfl;have G8:w3.cell? ⟨jW,9,none⟩=some (.slice js cE.length ju):=cz cv.out 9 rfl;have pO:=ae cv.out 0;have pP:=ae cv.out 1;have pQ:=ae cv.out 2;have pR:=ae cv.out 3;have uk:=ae cv.out 4;have G9:=ae cv.out 5;have He:=ae cv.out 6;have Hf:=ae cv.out 7;have Hg:=ae cv.out 8;have Hh:=ae cv.out 9))
 (try simp only [Act.put,List.setIfInBounds_toArray,List.set_cons_zero,List.set_cons_succ])
 go_cut [15] (fun v15 wc=>∃ (kq:Nat) (NJ:Bool),v15= .bool NJ /\ aa (eO.j0 kq (wrap64 (20+(bH.length:Int))) NJ aU bh bn bu dP dR dX dY bH cE=some (r1,r2)) /\ aa (kq<=k) /\ aa (wc.heap[jW]?=some (.cells #[.int .u8 aU,.int .u8 bh,.int .u8 bn,.int .u16 bu,.int .u8 dP,.int .u16 dR,.int .u32 dX,.int .u32 dY,(.slice jq bH.length jr),(.slice js cE.length ju)] 73 (0,0))) /\ aa (Below w.heap.size w wc))
 case first=>
  have H:=LO.out;clear LO
  by_cases c5:((bH.length:Int) % 4)=0
  rotate_left
  ·rw [av c5] at H
   have mJ:(((bH.length:Int) % 4)==0)=false:=fq c5;have qn:(((bH.length:Int) % 4) !=0)=true:=lf c5
   (first|rw [mJ]|(simp only [gK,kD];rw [mJ])|skip)
   have H':=aa.mk H;clear H;have Ahd:=ru cv.out;have Ahe:=ae cv.out
   go_wp2
   repeat (go_quiet (fail);try go_wp2)
   go_meet
   case rel=>exact ⟨_,(true),(by first|rfl|(simp;done)|(simp [*];done)),H',⟨by first|omega|exact Nat.le_refl _⟩,⟨kz cv⟩,⟨bz HB⟩⟩
  rw [aq c5] at H
  have mJ:(((bH.length:Int) % 4)==0)=true:=fF c5;have qn:(((bH.length:Int) % 4) !=0)=false:=kL c5;clear c5
  (first|rw [mJ]|(simp only [gK,kD];rw [mJ])|skip)
  by_cases c6:(bH.length:Int)>40
  ·rw [aq c6] at H
   have um:decide (40<(bH.length:Int))=true:=bN c6;have OZ:decide (40<bH.length)=true:=bN (by omega);clear c6;have H':=aa.mk H;clear H;have AkF:=ru cv.out;have AkG:=ae cv.out
   go_wp2
   repeat (go_quiet (fail);try go_wp2)
   go_meet
   case rel=>exact ⟨_,(true),(by first|rfl|(simp;done)|(simp [*];done)),H',⟨by first|omega|exact Nat.le_refl _⟩,⟨kz cv⟩,⟨bz HB⟩⟩
  rw [av c6] at H
  have um:decide (40<(bH.length:Int))=false:=gN c6;have OZ:decide (40<bH.length)=false:=gN (by omega);clear c6
  by_cases c8:dP>7
  ·rw [aq c8] at H
   have nU:decide (7<dP)=true:=bN c8;clear c8;have H':=aa.mk H;clear H;have NK:=ru cv.out;have NL:=ae cv.out
   go_wp2
   repeat (go_quiet (fail);try go_wp2)
   go_meet
   case rel=>exact ⟨_,(true),(by first|rfl|(simp;done)|(simp [*];done)),H',⟨by first|omega|exact Nat.le_refl _⟩,⟨kz cv⟩,⟨bz HB⟩⟩
  rw [av c8] at H
  have nU:decide (7<dP)=false:=gN c8;clear c8;have H':=aa.mk H;clear H;have S1:=ru cv.out;have S3:=ae cv.out
  go_wp2
  repeat (go_quiet (fail);try go_wp2)
  go_meet
  case rel=>exact ⟨_,(decide (dR>8191)),(by first|rfl|(simp;done)|(simp [*];done)),H',⟨by first|omega|exact Nat.le_refl _⟩,⟨kz cv⟩,⟨bz HB⟩⟩
 clear LO
 try clear pK
 try clear pL
 try clear pM
 try clear pN
 try clear uj
 try clear G4
 try clear G5
 try clear G6
 try clear G7
 try clear G8
 try clear pO
 try clear pP
 try clear pQ
 try clear pR
 try clear uk
 try clear G9
 try clear He
 try clear Hf
 try clear Hg
 try clear Hh
 obtain ⟨kq,NJ,rfl,HA,HJ1,cv,HB⟩:=hcut
 cases kq with
 |zero=>exact absurd HA.out (by simp [eO.j0])
 |succ Ph=>
  have H:=HA.out;clear HA;simp only [eO.j0] at H
  by_cases uQ:NJ=true
  ·subst uQ
   have H1:(some (([]:List Int),21))=some (r1,r2):=by rw [aq rfl] at H;exact H
   clear H;have H:=H1;clear H1;simp only [Option.some.injEq,Prod.mk.injEq] at H
   obtain ⟨rfl,rfl⟩:=H
   go_wp2
   repeat (go_quiet (fail);try go_wp2)
   go_ret2
   exact ⟨_,by first|rfl|(simp [aj,ak]<;>rfl)|(simp [*,aj,ak]<;>rfl),by first|exact Kd.bX _ _ _ _ _|exact Kd.jn _ _ _ _ _|exact Kd.jo _ _ _ _ _|exact Kd.jl _ _ _ _ _|exact Kd.jm _ _ _ _ _,bz HB⟩
  replace uQ:=zE uQ
  subst uQ;have H1:(if (cE.length:Int)>(wrap64 (65535 - (wrap64 (20+(bH.length:Int))))) then (some (([]:List Int),23)) else ((some (([dX,dY]:List Int):List Int)).bind fun my=>(eO.l0 Ph (([Go.bits .or .u8 64 ((wrap64 (Int.tdiv (wrap64 (20+(bH.length:Int))) 4)) % 256),aU,((wrap64 ((wrap64 (20+(bH.length:Int)))+(cE.length:Int))) / 256) % 256,(wrap64 ((wrap64 (20+(bH.length:Int)))+(cE.length:Int))) % 256,(bu / 256) % 256,(bu) % 256,((Go.bits .or .u16 (IntKind.u16.wrap ((IntKind.u16.wrap (dP))*8192)) dR) / 256) % 256,(Go.bits .or .u16 (IntKind.u16.wrap ((IntKind.u16.wrap (dP))*8192)) dR) % 256,bh,bn,0,0]:List Int)) my (my.length:Int) 0 aU bh bn bu dP dR dX dY bH cE)))=some (r1,r2):=by rw [av (show ¬ (false=true) by decide)] at H;exact H
  clear H;have H:=H1;clear H1
  by_cases O1:(cE.length:Int)>(wrap64 (65535 - (wrap64 (20+(bH.length:Int)))))
  ·rw [aq O1] at H
   have Rs:decide ((wrap64 (65535 - (wrap64 (20+(bH.length:Int)))))<(cE.length:Int))=true:=bN O1;clear O1;simp only [Option.some.injEq,Prod.mk.injEq] at H
   obtain ⟨rfl,rfl⟩:=H;have Ahf:=ru cv.out;have Ahg:=ae cv.out
   go_wp2
   repeat (go_quiet (fail);try go_wp2)
   go_ret2
   exact ⟨_,by first|rfl|(simp [aj,ak]<;>rfl)|(simp [*,aj,ak]<;>rfl),by first|exact Kd.bX _ _ _ _ _|exact Kd.jn _ _ _ _ _|exact Kd.jo _ _ _ _ _|exact Kd.jl _ _ _ _ _|exact Kd.jm _ _ _ _ _,bz HB⟩
  rw [av O1] at H
  have Rs:decide ((wrap64 (65535 - (wrap64 (20+(bH.length:Int)))))<(cE.length:Int))=false:=gN O1;clear O1;obtain ⟨Apo,S4⟩:∃ y_:List Int,y_=(([Go.bits .or .u8 64 ((wrap64 (Int.tdiv (wrap64 (20+(bH.length:Int))) 4)) % 256),aU,((wrap64 ((wrap64 (20+(bH.length:Int)))+(cE.length:Int))) / 256) % 256,(wrap64 ((wrap64 (20+(bH.length:Int)))+(cE.length:Int))) % 256,(bu / 256) % 256,(bu) % 256,((Go.bits .or .u16 (IntKind.u16.wrap ((IntKind.u16.wrap (dP))*8192)) dR) / 256) % 256,(Go.bits .or .u16 (IntKind.u16.wrap ((IntKind.u16.wrap (dP))*8192)) dR) % 256,bh,bn,0,0]:List Int)):=⟨_,rfl⟩
  rw [<- S4] at H
  have Y7:=aa.mk S4;clear S4;obtain ⟨my,S5⟩:∃ y_:List Int,y_=(([dX,dY]:List Int)):=⟨_,rfl⟩
  rw [<- S5] at H
  have FM:=aa.mk S5;clear S5;have H':=aa.mk H;clear H;have S6:=ru cv.out;have S7:=ae cv.out
  go_wp2_with (first|((with_reducible refine aA (N:=88) rfl ?_);(try (refine eP (by rfl) ?_;dsimp only));refine Kd.qh (Kd.int .u32) _ 27 ?hg (N:=88) ?hd (xs:=([dX,dY]:List Int)) (inner:=[.int .u32 dX,.int .u32 dY]) (ok:=fun _=>True) (qW:=fun _=>True) ?hr ?hp (fun _ hk=>hk) trivial (Below.refl _ _) (Nat.le_refl _) (by simp) ?_;(case hd=>rfl);(case hg=>rfl);(case hr=>first|(go_simp;done)|(go_simp;rfl));(case hp=>exact (cD.one (show Kd.M (Kd.int .u32) _ _ _ dX [.int .u32 dX] from rfl) (cD.one (show Kd.M (Kd.int .u32) _ _ _ dY [.int .u32 dY] from rfl) (cD.none _ _))));intro Ahh w19 xz hb fT iN;clear fT iN;(first|rw [<- FM.out] at xz|(simp only [Int.reduceToNat] at xz;rw [<- FM.out] at xz));have aH:=aa.mk (Kd.fX (Kd.rz yS) hb);have aK:=aa.mk (Kd.bP xz (af (bz HB)));have bt:=aa.mk (bq (kz cv) hb);have cC:=aa.mk (au (bz HB) hb);clear yS;clear cv;clear HB;have yS:=aH;have FN:=aK;have cv:=bt;have HB:=cC;clear aH aK bt cC;clear hb xz;obtain ⟨Acz,AcA,S8⟩:=Kd.dn FN.out;subst S8))
  repeat (go_quiet (first|((with_reducible refine aA (N:=88) rfl ?_);(try (refine eP (by rfl) ?_;dsimp only));refine Kd.qh (Kd.int .u32) _ 27 ?hg (N:=88) ?hd (xs:=([dX,dY]:List Int)) (inner:=[.int .u32 dX,.int .u32 dY]) (ok:=fun _=>True) (qW:=fun _=>True) ?hr ?hp (fun _ hk=>hk) trivial (Below.refl _ _) (Nat.le_refl _) (by simp) ?_;(case hd=>rfl);(case hg=>rfl);(case hr=>first|(go_simp;done)|(go_simp;rfl));(case hp=>exact (cD.one (show Kd.M (Kd.int .u32) _ _ _ dX [.int .u32 dX] from rfl) (cD.one (show Kd.M (Kd.int .u32) _ _ _ dY [.int .u32 dY] from rfl) (cD.none _ _))));intro Ahh w19 xz hb fT iN;clear fT iN;(first|rw [<- FM.out] at xz|(simp only [Int.reduceToNat] at xz;rw [<- FM.out] at xz));have aH:=aa.mk (Kd.fX (Kd.rz yS) hb);have aK:=aa.mk (Kd.bP xz (af (bz HB)));have bt:=aa.mk (bq (kz cv) hb);have cC:=aa.mk (au (bz HB) hb);clear yS;clear cv;clear HB;have yS:=aH;have FN:=aK;have cv:=bt;have HB:=cC;clear aH aK bt cC;clear hb xz;obtain ⟨Acz,AcA,S8⟩:=Kd.dn FN.out;subst S8));try go_wp2_with (first|((with_reducible refine aA (N:=83) rfl ?_);(try (refine eP (by rfl) ?_;dsimp only));refine Kd.qh (Kd.int .u8) _ 5 ?hg (N:=83) ?hd (xs:=([Go.bits .or .u8 64 ((wrap64 (Int.tdiv (wrap64 (20+(bH.length:Int))) 4)) % 256),aU,((wrap64 ((wrap64 (20+(bH.length:Int)))+(cE.length:Int))) / 256) % 256,(wrap64 ((wrap64 (20+(bH.length:Int)))+(cE.length:Int))) % 256,(bu / 256) % 256,(bu) % 256,((Go.bits .or .u16 (IntKind.u16.wrap ((IntKind.u16.wrap (dP))*8192)) dR) / 256) % 256,(Go.bits .or .u16 (IntKind.u16.wrap ((IntKind.u16.wrap (dP))*8192)) dR) % 256,bh,bn,0,0]:List Int)) (inner:=[.int .u8 (Go.bits .or .u8 64 ((wrap64 (Int.tdiv (wrap64 (20+(bH.length:Int))) 4)) % 256)),.int .u8 aU,.int .u8 (((wrap64 ((wrap64 (20+(bH.length:Int)))+(cE.length:Int))) / 256) % 256),.int .u8 ((wrap64 ((wrap64 (20+(bH.length:Int)))+(cE.length:Int))) % 256),.int .u8 ((bu / 256) % 256),.int .u8 ((bu) % 256),.int .u8 (((Go.bits .or .u16 (IntKind.u16.wrap ((IntKind.u16.wrap (dP))*8192)) dR) / 256) % 256),.int .u8 ((Go.bits .or .u16 (IntKind.u16.wrap ((IntKind.u16.wrap (dP))*8192)) dR) % 256),.int .u8 bh,.int .u8 bn,.int .u8 0,.int .u8 0]) (ok:=fun _=>True) (qW:=fun _=>True) ?hr ?hp (fun _ hk=>hk) trivial (Below.refl _ _) (Nat.le_refl _) (by simp) ?_;(case hd=>rfl);(case hg=>rfl);(case hr=>first|(go_simp;done)|(go_simp;simp only [IntKind.wrap_u8,IntKind.wrap_u16,IntKind.wrap_u32];done)|(go_simp;rfl));(case hp=>exact (cD.one (show Kd.M (Kd.int .u8) _ _ _ (Go.bits .or .u8 64 ((wrap64 (Int.tdiv (wrap64 (20+(bH.length:Int))) 4)) % 256)) [.int .u8 (Go.bits .or .u8 64 ((wrap64 (Int.tdiv (wrap64 (20+(bH.length:Int))) 4)) % 256))] from rfl) (cD.one (show Kd.M (Kd.int .u8) _ _ _ aU [.int .u8 aU] from rfl) (cD.one (show Kd.M (Kd.int .u8) _ _ _ (((wrap64 ((wrap64 (20+(bH.length:Int)))+(cE.length:Int))) / 256) % 256) [.int .u8 (((wrap64 ((wrap64 (20+(bH.length:Int)))+(cE.length:Int))) / 256) % 256)] from rfl) (cD.one (show Kd.M (Kd.int .u8) _ _ _ ((wrap64 ((wrap64 (20+(bH.length:Int)))+(cE.length:Int))) % 256) [.int .u8 ((wrap64 ((wrap64 (20+(bH.length:Int)))+(cE.length:Int))) % 256)] from rfl) (cD.one (show Kd.M (Kd.int .u8) _ _ _ ((bu / 256) % 256) [.int .u8 ((bu / 256) % 256)] from rfl) (cD.one (show Kd.M (Kd.int .u8) _ _ _ ((bu) % 256) [.int .u8 ((bu) % 256)] from rfl) (cD.one (show Kd.M (Kd.int .u8) _ _ _ (((Go.bits .or .u16 (IntKind.u16.wrap ((IntKind.u16.wrap (dP))*8192)) dR) / 256) % 256) [.int .u8 (((Go.bits .or .u16 (IntKind.u16.wrap ((IntKind.u16.wrap (dP))*8192)) dR) / 256) % 256)] from rfl) (cD.one (show Kd.M (Kd.int .u8) _ _ _ ((Go.bits .or .u16 (IntKind.u16.wrap ((IntKind.u16.wrap (dP))*8192)) dR) % 256) [.int .u8 ((Go.bits .or .u16 (IntKind.u16.wrap ((IntKind.u16.wrap (dP))*8192)) dR) % 256)] from rfl) (cD.one (show Kd.M (Kd.int .u8) _ _ _ bh [.int .u8 bh] from rfl) (cD.one (show Kd.M (Kd.int .u8) _ _ _ bn [.int .u8 bn] from rfl) (cD.one (show Kd.M (Kd.int .u8) _ _ _ 0 [.int .u8 0] from rfl) (cD.one (show Kd.M (Kd.int .u8) _ _ _ 0 [.int .u8 0] from rfl) (cD.none _ _))))))))))))));intro Awj qJ S9 hb fT iN;clear fT iN;(first|rw [<- Y7.out] at S9|(simp only [Int.reduceToNat] at S9;rw [<- Y7.out] at S9));have aH:=aa.mk (Kd.bP S9 (af (bz HB)));have aK:=aa.mk (bq (kz cv) hb);have bt:=aa.mk (au (bz HB) hb);clear cv;clear HB;have yS:=aH;have cv:=aK;have HB:=bt;clear aH aK bt;clear hb S9;have NM:qJ.cell? ⟨jW,0,none⟩=some (.int .u8 aU):=cz cv.out 0 rfl;have NN:qJ.cell? ⟨jW,1,none⟩=some (.int .u8 bh):=cz cv.out 1 rfl;have NP:qJ.cell? ⟨jW,2,none⟩=some (.int .u8 bn):=cz cv.out 2 rfl;have NQ:qJ.cell? ⟨jW,3,none⟩=some (.int .u16 bu):=cz cv.out 3 rfl;have We:qJ.cell? ⟨jW,4,none⟩=some (.int .u8 dP):=cz cv.out 4 rfl;have Wf:qJ.cell? ⟨jW,5,none⟩=some (.int .u16 dR):=cz cv.out 5 rfl;have Wg:qJ.cell? ⟨jW,6,none⟩=some (.int .u32 dX):=cz cv.out 6 rfl;have Wh:qJ.cell? ⟨jW,7,none⟩=some (.int .u32 dY):=cz cv.out 7 rfl;have Wi:qJ.cell? ⟨jW,8,none⟩=some (.slice jq bH.length jr):=cz cv.out 8 rfl;have Wj:qJ.cell? ⟨jW,9,none⟩=some (.slice js cE.length ju):=cz cv.out 9 rfl;have NR:=ae cv.out 0;have NS:=ae cv.out 1;have NT:=ae cv.out 2;have NU:=ae cv.out 3;have Wk:=ae cv.out 4;have Wl:=ae cv.out 5;have Wm:=ae cv.out 6;have Wn:=ae cv.out 7;have Wo:=ae cv.out 8;have Wp:=ae cv.out 9)|((with_reducible refine aA (N:=88) rfl ?_);(try (refine eP (by rfl) ?_;dsimp only));refine Kd.qh (Kd.int .u32) _ 27 ?hg (N:=88) ?hd (xs:=([dX,dY]:List Int)) (inner:=[.int .u32 dX,.int .u32 dY]) (ok:=fun _=>True) (qW:=fun _=>True) ?hr ?hp (fun _ hk=>hk) trivial (Below.refl _ _) (Nat.le_refl _) (by simp) ?_;(case hd=>rfl);(case hg=>rfl);(case hr=>first|(go_simp;done)|(go_simp;rfl));(case hp=>exact (cD.one (show Kd.M (Kd.int .u32) _ _ _ dX [.int .u32 dX] from rfl) (cD.one (show Kd.M (Kd.int .u32) _ _ _ dY [.int .u32 dY] from rfl) (cD.none _ _))));intro Ahh w19 xz hb fT iN;clear fT iN;(first|rw [<- FM.out] at xz|(simp only [Int.reduceToNat] at xz;rw [<- FM.out] at xz));have aH:=aa.mk (Kd.fX (Kd.rz yS) hb);have aK:=aa.mk (Kd.bP xz (af (bz HB)));have bt:=aa.mk (bq (kz cv) hb);have cC:=aa.mk (au (bz HB) hb);clear yS;clear cv;clear HB;have yS:=aH;have FN:=aK;have cv:=bt;have HB:=cC;clear aH aK bt cC;clear hb xz;obtain ⟨Acz,AcA,S8⟩:=Kd.dn FN.out;subst S8)))
  go_loopg [7,90] Ph (fun kq v7 v90 w'=>∃ (yE:List Int) (jF:Int),v90= .int .i64 jF /\ aa (eO.l0 kq yE my (my.length:Int) jF aU bh bn bu dP dR dX dY bH cE=some (r1,r2)) /\ aa (kq<=Ph) /\ aa (Kd.R (Kd.int .u8) 5 w' w.heap.size (fun _=>True) v7 yE) /\ aa (Kd.R (Kd.int .u32) 27 w' w.heap.size (fun _=>True) (.slice Acz my.length AcA) my) /\ aa (w'.heap[jW]?=some (.cells #[.int .u8 aU,.int .u8 bh,.int .u8 bn,.int .u16 bu,.int .u8 dP,.int .u16 dR,.int .u32 dX,.int .u32 dY,(.slice jq bH.length jr),(.slice js cE.length ju)] 73 (0,0))) /\ aa (Below w.heap.size w w'))
  case atStart=>exact ⟨(Apo),(0),(by first|rfl|(simp;done)|(simp [*];done)),H',⟨Nat.le_refl _⟩,⟨Kd.rz yS⟩,⟨Kd.rz FN⟩,⟨kz cv⟩,⟨bz HB⟩⟩
  clear H'
  try clear uQ
  try clear O1
  try clear Rs
  try clear S6
  try clear NM
  try clear NN
  try clear NP
  try clear NQ
  try clear We
  try clear Wf
  try clear Wg
  try clear Wh
  try clear Wi
  try clear Wj
  try clear pK
  try clear pL
  try clear pM
  try clear pN
  try clear uj
  try clear G4
  try clear G5
  try clear G6
  try clear G7
  try clear G8
  try clear S7
  try clear NR
  try clear NS
  try clear NT
  try clear NU
  try clear Wk
  try clear Wl
  try clear Wm
  try clear Wn
  try clear Wo
  try clear Wp
  try clear pO
  try clear pP
  try clear pQ
  try clear pR
  try clear uk
  try clear G9
  try clear He
  try clear Hf
  try clear Hg
  try clear Hh
  obtain ⟨yE,jF,rfl,HA,Yt,Ch,lH,cv,HB⟩:=hrel
  cases gk with
  |zero=>exact absurd HA.out (by simp [eO.l0])
  |succ k2=>
   have H:=HA.out;clear HA;simp only [eO.l0] at H
   by_cases I1:jF<(my.length:Int)
   ·rw [aq I1] at H
    have Rk:decide (jF<(my.length:Int))=true:=bN I1;clear I1
    by_cases Jg:0<=jF
    rotate_left
    ·rw [av Jg] at H
     cases H
    rw [aq Jg] at H
    have RJ:decide (0<=jF)=true:=bN Jg;clear Jg
    by_cases Nm:jF<(my.length:Int)
    rotate_left
    ·rw [av Nm] at H
     cases H
    rw [aq Nm] at H
    have Yf:decide (jF<(my.length:Int))=true:=bN Nm;clear Nm;obtain ⟨G3,JS⟩:∃ y_:List Int,y_=(([((rd my jF) / 16777216) % 256,((rd my jF) / 65536) % 256,((rd my jF) / 256) % 256,(rd my jF) % 256]:List Int)):=⟨_,rfl⟩
    replace H:(if yE.length+G3.length<140737488355328 then (eO.l0 k2 (yE++G3) my (my.length:Int) (wrap64 (jF+1)) aU bh bn bu dP dR dX dY bH cE) else (none))=some (r1,r2):=by first|(rw [JS];with_reducible exact H)|(have kE:=(bD _ _).symm.trans H;rw [JS];with_reducible exact kE)|(have kE:=(bD _ _).symm.trans H;with_reducible exact kE)|with_reducible exact H|(rw [JS];exact H)|exact H
    have Y8:=aa.mk JS;clear JS
    by_cases Nw:yE.length+G3.length<140737488355328
    ·rw [aq Nw] at H
     have Sp:=aa.mk Nw;clear Nw;obtain ⟨Ahj,JT⟩:∃ y_:List Int,y_=(yE++G3):=⟨_,rfl⟩
     replace H:(eO.l0 k2 Ahj my (my.length:Int) (wrap64 (jF+1)) aU bh bn bu dP dR dX dY bH cE)=some (r1,r2):=by first|(rw [JT];with_reducible exact H)|(have kE:=(bD _ _).symm.trans H;rw [JT];with_reducible exact kE)|(have kE:=(bD _ _).symm.trans H;with_reducible exact kE)|with_reducible exact H|(rw [JT];exact H)|exact H
     have Ahk:=aa.mk JT;clear JT;have H':=aa.mk H;clear H;have AcB:0<=(jF:Int):=gA;have AcC:jF<(my.length:Int):=gA;obtain ⟨Atd,Apq,AkH⟩:=Kd.dG (Kd.ay lH.out).2.2 jF AcB AcC
     cases Apq
     replace AcB:=eq_true AcB;replace AcC:=eq_true AcC
     go_wp2_with (first|((with_reducible refine aA (N:=106) rfl ?_);(try (refine eP (by rfl) ?_;dsimp only));refine Kd.qh (Kd.int .u8) _ 5 ?hg (N:=106) ?hd (xs:=([((rd my jF) / 16777216) % 256,((rd my jF) / 65536) % 256,((rd my jF) / 256) % 256,(rd my jF) % 256]:List Int)) (inner:=[.int .u8 (((rd my jF) / 16777216) % 256),.int .u8 (((rd my jF) / 65536) % 256),.int .u8 (((rd my jF) / 256) % 256),.int .u8 ((rd my jF) % 256)]) (ok:=fun _=>True) (qW:=fun _=>True) ?hr ?hp (fun _ hk=>hk) trivial (Below.refl _ _) (Nat.le_refl _) (by simp) ?_;(case hd=>rfl);(case hg=>rfl);(case hr=>first|(go_simp;done)|(go_simp;simp only [IntKind.wrap_u8,IntKind.wrap_u16,IntKind.wrap_u32];done)|(go_simp;rfl));(case hp=>exact (cD.one (show Kd.M (Kd.int .u8) _ _ _ (((rd my jF) / 16777216) % 256) [.int .u8 (((rd my jF) / 16777216) % 256)] from rfl) (cD.one (show Kd.M (Kd.int .u8) _ _ _ (((rd my jF) / 65536) % 256) [.int .u8 (((rd my jF) / 65536) % 256)] from rfl) (cD.one (show Kd.M (Kd.int .u8) _ _ _ (((rd my jF) / 256) % 256) [.int .u8 (((rd my jF) / 256) % 256)] from rfl) (cD.one (show Kd.M (Kd.int .u8) _ _ _ ((rd my jF) % 256) [.int .u8 ((rd my jF) % 256)] from rfl) (cD.none _ _))))));intro Awl w26 Pu hb fT iN;clear fT iN;(first|rw [<- Y8.out] at Pu|(simp only [Int.reduceToNat] at Pu;rw [<- Y8.out] at Pu));have aH:=aa.mk (Kd.mQ (Kd.rz Ch) (Kd.j3 Pu) hb);have aK:=aa.mk (Kd.fX (Kd.rz lH) hb);have bt:=aa.mk (Kd.bP (Kd.qZ Pu (Kd.ox (Kd.rz Ch))) (af (bz HB)));have cC:=aa.mk (bq (kz cv) hb);have uA:=aa.mk (au (bz HB) hb);clear Ch;clear lH;clear cv;clear HB;have Ch:=aH;have lH:=aK;have FO:=bt;have cv:=cC;have HB:=uA;clear aH aK bt cC uA;clear hb Pu;obtain ⟨Apr,Aps,Apt⟩:=Kd.dn FO.out;subst Apt)|((with_reducible refine fB (b:= .append) (xs:= #[.tmp 94,.tmp 106]) rfl ?_);(try (refine eP (by rfl) ?_;dsimp only));at_builtin;refine Kd.gz (Kd.int .u8) (w0:=w) w.heap.size rfl (.tmp 94) (.tmp 106) 23 5 (.int .u8 0) 1 rfl Try.underlying23 fY rfl (by decide) (by omega) u7 yE G3 _ _ _ (fun k_=>some k_≠(.slice Apr G3.length Aps:Value).ownBlock) (fun _=>False) rfl rfl ?aO ?aR (fun _ _ h=>h) (fun _ h=>h.elim) ?aF ?aB ?aS ?aL ?_;(case aR=>repeat (first|exact (Kd.ay FO.out).2.2|(with_reducible refine Kd.fH ?_ _)|(with_reducible refine Kd.fz ?_ _)|(with_reducible refine Kd.gQ ?_)));(case aB=>exact bz HB);(case aF=>exact (fun k_ hk=>Kd.mG (Kd.ox (Kd.rz FO)) k_ hk));(case aO=>exact (by (with_reducible repeat (first|apply Kd.fg|apply Kd.eV|apply Kd.fj));exact Kd.dA Ch.out (fun _ hk=>hk.2)));(case aS=>exact (af (bz HB)));(case aL=>have:=Sp.out;omega);intro Awm w28 ho hb hg hat;rw [<- Ahk.out] at ho;have aH:=aa.mk (Kd.uO (Kd.rz lH) (Kd.rO (Kd.rz Ch)) (by decide) hg);have aK:=aa.mk (gW (kz cv) hg (Kd.nk Ch.out cv.out (by decide)));have bt:=aa.mk (Kd.nS (ok:=(fun _=>True)) (Kd.rz FO) hg hat);have cC:=aa.mk (hb);have uA:=aa.mk (ho);clear lH;clear cv;clear FO;clear HB;clear Ch;have lH:=aH;have cv:=aK;have FO:=bt;have HB:=cC;have Ahl:=uA;clear aH aK bt cC uA;clear ho hb hg hat))
     go_roundg k2
     case measure=>have:=HJ1.out;have:=Yt.out;omega
     case rel=>exact ⟨(Ahj),(wrap64 (jF+1)),(by first|rfl|(simp;done)|(simp [*];done)),H',⟨by have:=HJ1.out;have:=Yt.out;omega⟩,⟨by (with_reducible repeat (first|apply Kd.fg|apply Kd.eV|apply Kd.fj));exact Kd.dA Ahl.out (fun _ hk=>trivial)⟩,⟨Kd.rz lH⟩,⟨kz cv⟩,⟨bz HB⟩⟩
    rw [av Nw] at H
    cases H
   rw [av I1] at H
   have Rk:decide (jF<(my.length:Int))=false:=gN I1;clear I1
   by_cases c30:yE.length+bH.length<140737488355328
   rotate_left
   ·rw [av c30] at H
    cases H
   rw [aq c30] at H
   have Ahm:=aa.mk c30;clear c30;obtain ⟨pV,JU⟩:∃ y_:List Int,y_=(yE++bH):=⟨_,rfl⟩
   replace H:((mK.f k2 pV).bind fun xy=>(if 10<(pV.length:Int) then (if 11<(pV.length:Int) then ((some ((pV.set (10:Int).toNat ((xy / 256) % 256)).set (11:Int).toNat ((xy) % 256):List Int)).bind fun zh=>(if zh.length+cE.length<140737488355328 then (some ((zh++cE),0)) else (none))) else (none)) else (none)))=some (r1,r2):=by first|(rw [JU];with_reducible exact H)|(have kE:=(bD _ _).symm.trans H;rw [JU];with_reducible exact kE)|(have kE:=(bD _ _).symm.trans H;with_reducible exact kE)|with_reducible exact H|(rw [JU];exact H)|exact H
   have Ahn:=aa.mk JU;clear JU;replace H:=dc H;obtain ⟨xy,Ta,H⟩:=H;replace H:(if 10<(pV.length:Int) then (if 11<(pV.length:Int) then ((some ((pV.set (10:Int).toNat ((xy / 256) % 256)).set (11:Int).toNat ((xy) % 256):List Int)).bind fun zh=>(if zh.length+cE.length<140737488355328 then (some ((zh++cE),0)) else (none))) else (none)) else (none))=some (r1,r2):=H;have A31:=aa.mk Ta;clear Ta
   by_cases LB:10<(pV.length:Int)
   rotate_left
   ·rw [av LB] at H
    cases H
   rw [aq LB] at H
   have AfT:decide (10<(pV.length:Int))=true:=bN LB;have AfU:decide (10<pV.length)=true:=bN (by omega);clear LB;obtain ⟨Aho,Tb⟩:∃ y_:List Int,y_=(pV.set (10:Int).toNat ((xy / 256) % 256)):=⟨_,rfl⟩
   rw [<- Tb] at H
   have Ahp:=aa.mk Tb;clear Tb
   by_cases c34:11<(pV.length:Int)
   rotate_left
   ·rw [av c34] at H
    cases H
   rw [aq c34] at H
   have Ate:decide (11<(pV.length:Int))=true:=bN c34;have Atf:decide (11<pV.length)=true:=bN (by omega);clear c34;obtain ⟨zh,JV⟩:∃ y_:List Int,y_=(Aho.set (11:Int).toNat ((xy) % 256)):=⟨_,rfl⟩
   replace H:(if zh.length+cE.length<140737488355328 then (some ((zh++cE),0)) else (none))=some (r1,r2):=by first|(rw [JV];with_reducible exact H)|(have kE:=(bD _ _).symm.trans H;rw [JV];with_reducible exact kE)|(have kE:=(bD _ _).symm.trans H;with_reducible exact kE)|with_reducible exact H|(rw [JV];exact H)|exact H
   have Ahq:=aa.mk JV;clear JV
   by_cases c36:zh.length+cE.length<140737488355328
   ·rw [aq c36] at H
    have Ahr:=aa.mk c36;clear c36;obtain ⟨Apv,JW⟩:∃ y_:List Int,y_=(zh++cE):=⟨_,rfl⟩
    replace H:(some (Apv,0))=some (r1,r2):=by first|(rw [JW];with_reducible exact H)|(have kE:=(bD _ _).symm.trans H;rw [JW];with_reducible exact kE)|(have kE:=(bD _ _).symm.trans H;with_reducible exact kE)|with_reducible exact H|(rw [JW];exact H)|exact H
    have Ahs:=aa.mk JW;clear JW;simp only [Option.some.injEq,Prod.mk.injEq] at H
    obtain ⟨rfl,rfl⟩:=H;have Aht:=ru cv.out;have Ahu:=ae cv.out
    go_wp2_with (first|((with_reducible refine fB (b:= .append) (xs:= #[.tmp 109,.tmp 111]) rfl ?_);(try (refine eP (by rfl) ?_;dsimp only));at_builtin;refine Kd.gz (Kd.int .u8) (w0:=w) w.heap.size rfl (.tmp 109) (.tmp 111) 23 5 (.int .u8 0) 1 rfl Try.underlying23 fY rfl (by decide) (by omega) u7 yE bH _ _ _ (fun _=>True) (fun _=>False) rfl rfl ?aO ?aR (fun _ _ h=>h) (fun _ h=>h.elim) ?aF ?aB ?aS ?aL ?_;(case aR=>exact Kd.aW BI.out (bz HB));(case aB=>exact bz HB);(case aF=>exact (fun _ _=>trivial));(case aO=>exact (Kd.rz Ch));(case aS=>exact (af (bz HB)));(case aL=>have:=Ahm.out;omega);intro Awn w38 ho hb hg hat;rw [<- Ahn.out] at ho;have aH:=aa.mk (Kd.uO (Kd.rz lH) (Kd.rO (Kd.rz Ch)) (by decide) hg);have aK:=aa.mk (gW (kz cv) hg (Kd.nk Ch.out cv.out (by decide)));have bt:=aa.mk (hb);have cC:=aa.mk (ho);clear lH;clear cv;clear HB;clear Ch;have lH:=aH;have cv:=aK;have HB:=bt;have jR:=cC;clear aH aK bt cC;clear ho hb hg hat;obtain ⟨Hi,Aj,Ma⟩:=Kd.dn jR.out;subst Ma)|(go_at_call 90;(with_reducible refine (mK.calls k2 _ _ pV xy _ ?aE ?aG A31.out).mono ?_);(case aE=>repeat (first|exact (Kd.ay jR.out).2.2|(with_reducible refine Kd.fH ?_ _)|(with_reducible refine Kd.fz ?_ _)|(with_reducible refine Kd.gQ ?_)));(case aG=>exact (Kd.ay jR.out).2.1);rintro e Du ⟨rfl,hb⟩;have aH:=aa.mk (Kd.fX (Kd.rz lH) hb);have aK:=aa.mk (Kd.fX (Kd.rz jR) hb);have bt:=aa.mk (bq (kz cv) hb);have cC:=aa.mk (au (bz HB) hb);clear lH;clear jR;clear cv;clear HB;have lH:=aH;have jR:=aK;have cv:=bt;have HB:=cC;clear aH aK bt cC;(try clear hb);(try clear hb2);(try clear hk);(try clear hi);have p33:0<=(10:Int):=(by omega);have q33:(10:Int)<((pV.length:Int):Int):=gA;have Awo:(10<pV.length)=True:=eq_true (by omega);obtain ⟨Hj,Aa,E7,Ahv,Apy,Awp,Ahw⟩:=Kd.ue jR.out (by omega);(first|cases E7|(injection E7 with Wq en_ ec_;(first|subst Wq|(injection Wq with Wq;subst Wq));subst ec_;clear en_));have Ahx:=aa.mk Ahv;have Awq:=aa.mk Ahw;clear Ahv Apy Ahw;obtain ⟨Tc,Td⟩:=Kd.lg 0 jR.out (10:Int) p33 q33;(try rw [show ((10:Int)).toNat=10 from rfl] at Tc);(try simp only [Nat.reduceMul,Nat.zero_mul,Nat.zero_add,Nat.reduceAdd] at Tc);(try rw [show ((10:Int)).toNat=10 from rfl] at Td);(try simp only [Nat.reduceMul,Nat.zero_mul,Nat.zero_add,Nat.reduceAdd] at Td);replace p33:=eq_true p33;replace q33:=eq_true q33;obtain ⟨JX,JY⟩:=Kd.lg 0 jR.out (10:Int) (by omega) gA;(try simp only [Int.reduceToNat,Int.toNat_zero,Int.toNat_ofNat,Nat.reduceMul,Nat.zero_mul,Nat.zero_add] at JX JY);(try rw [show ((10:Int)).toNat=10 from rfl] at JX);(try rw [show ((10:Int)).toNat=10 from rfl] at JY);have Wr:=Kd.AO jR.out (10:Int) ((xy / 256) % 256))|((with_reducible refine uP (t:=5) (p:=122) rfl ?_);(try (rw [fu Du];generalize jK:World.drewN Du _=Du;have aH:=aa.mk (Kd.VC jK lH.out);have aK:=aa.mk (Kd.VC jK jR.out);have bt:=aa.mk (QX jK cv.out);have cC:=aa.mk (IU jK HB.out);clear jK lH jR cv HB;have lH:=aH;have jR:=aK;have cv:=bt;have HB:=cC;clear aH aK bt cC;(try (obtain ⟨JX,JY⟩:=Kd.lg 0 jR.out (10:Int) (by omega) gA));(try (try simp only [Int.reduceToNat,Int.toNat_zero,Int.toNat_ofNat,Nat.reduceMul,Nat.zero_mul,Nat.zero_add] at JX JY));(try (try rw [show ((10:Int)).toNat=10 from rfl] at JX));(try (try rw [show ((10:Int)).toNat=10 from rfl] at JY));(try (have Wr:=Kd.AO jR.out (10:Int) ((xy / 256) % 256)))));refine sZ (t:=5) (p:=122) (v:= ?ApB) (w1:=(Du.setCell ⟨Hj,(10:Int).toNat,none⟩ (.int .u8 ((xy / 256) % 256)))) ?hg ?ho ?hn ?hr ?_;(case ho=>rfl);(case hg=>rfl);(case hn=>rfl);(case hr=>first|(go_simp;done)|(go_simp;rfl));intro SL hw;have hg:Du.grownBy SL (some Hj):=(by rw [hw];exact Wr.2);have Te:Kd.R (Kd.int .u8) 5 SL w.heap.size (fun _=>True) (.slice (some ⟨Hj,0,none⟩) pV.length Aj) Aho:=(by rw [hw,Ahp.out];exact Wr.1);clear Wr;have aH:=aa.mk (Kd.uO (v:=(.slice (some ⟨Hj,0,none⟩) pV.length Aj)) (Kd.rz lH) (Kd.rO jR.out) (by decide) hg);have aK:=aa.mk (gW (kz cv) hg (Kd.nk jR.out cv.out (by decide)));have bt:=aa.mk (Te);have cC:=aa.mk ((by rw [hw];exact ux (HB.out) Ahx.out:Below w.heap.size w SL));clear lH;clear cv;clear jR;clear HB;have lH:=aH;have cv:=aK;have jR:=bt;have HB:=cC;clear aH aK bt cC;clear hg hw Te;have p35:0<=(11:Int):=(by omega);have q35:(11:Int)<((pV.length:Int):Int):=gA;have Awr:(11<pV.length)=True:=eq_true (by omega);obtain ⟨Tf,Tg⟩:=Kd.lg 0 jR.out (11:Int) p35 q35;(try rw [show ((11:Int)).toNat=11 from rfl] at Tf);(try simp only [Nat.reduceMul,Nat.zero_mul,Nat.zero_add,Nat.reduceAdd] at Tf);(try rw [show ((11:Int)).toNat=11 from rfl] at Tg);(try simp only [Nat.reduceMul,Nat.zero_mul,Nat.zero_add,Nat.reduceAdd] at Tg);replace p35:=eq_true p35;replace q35:=eq_true q35;obtain ⟨JZ,J0⟩:=Kd.lg 0 jR.out (11:Int) (by omega) gA;(try simp only [Int.reduceToNat,Int.toNat_zero,Int.toNat_ofNat,Nat.reduceMul,Nat.zero_mul,Nat.zero_add] at JZ J0);(try rw [show ((11:Int)).toNat=11 from rfl] at JZ);(try rw [show ((11:Int)).toNat=11 from rfl] at J0);have Ws:=Kd.AO jR.out (11:Int) ((xy) % 256))|((with_reducible refine uP (t:=5) (p:=123) rfl ?_);(try (rw [fu SL];generalize jK:World.drewN SL _=SL;have aH:=aa.mk (Kd.VC jK lH.out);have aK:=aa.mk (Kd.VC jK jR.out);have bt:=aa.mk (QX jK cv.out);have cC:=aa.mk (IU jK HB.out);clear jK lH jR cv HB;have lH:=aH;have jR:=aK;have cv:=bt;have HB:=cC;clear aH aK bt cC;(try (obtain ⟨JZ,J0⟩:=Kd.lg 0 jR.out (11:Int) (by omega) gA));(try (try simp only [Int.reduceToNat,Int.toNat_zero,Int.toNat_ofNat,Nat.reduceMul,Nat.zero_mul,Nat.zero_add] at JZ J0));(try (try rw [show ((11:Int)).toNat=11 from rfl] at JZ));(try (try rw [show ((11:Int)).toNat=11 from rfl] at J0));(try (have Ws:=Kd.AO jR.out (11:Int) ((xy) % 256)))));refine sZ (t:=5) (p:=123) (v:= ?ApE) (w1:=(SL.setCell ⟨Hj,(11:Int).toNat,none⟩ (.int .u8 ((xy) % 256)))) ?hg ?ho ?hn ?hr ?_;(case ho=>rfl);(case hg=>rfl);(case hn=>rfl);(case hr=>first|(go_simp;done)|(go_simp;rfl));intro L0 hw;have hg:SL.grownBy L0 (some Hj):=(by rw [hw];exact Ws.2);have Te:Kd.R (Kd.int .u8) 5 L0 w.heap.size (fun _=>True) (.slice (some ⟨Hj,0,none⟩) pV.length Aj) zh:=(by rw [hw,Ahq.out];exact Ws.1);clear Ws;have aH:=aa.mk (Kd.uO (v:=(.slice (some ⟨Hj,0,none⟩) pV.length Aj)) (Kd.rz lH) (Kd.rO jR.out) (by decide) hg);have aK:=aa.mk (gW (kz cv) hg (Kd.nk jR.out cv.out (by decide)));have bt:=aa.mk (Te);have cC:=aa.mk ((by rw [hw];exact ux (HB.out) Ahx.out:Below w.heap.size w L0));clear lH;clear cv;clear jR;clear HB;have lH:=aH;have cv:=aK;have jR:=bt;have HB:=cC;clear aH aK bt cC;clear hg hw Te;have AkL:L0.cell? ⟨jW,0,none⟩=some (.int .u8 aU):=cz cv.out 0 rfl;have AkM:L0.cell? ⟨jW,1,none⟩=some (.int .u8 bh):=cz cv.out 1 rfl;have AkN:L0.cell? ⟨jW,2,none⟩=some (.int .u8 bn):=cz cv.out 2 rfl;have AkO:L0.cell? ⟨jW,3,none⟩=some (.int .u16 bu):=cz cv.out 3 rfl;have AkP:L0.cell? ⟨jW,4,none⟩=some (.int .u8 dP):=cz cv.out 4 rfl;have AkQ:L0.cell? ⟨jW,5,none⟩=some (.int .u16 dR):=cz cv.out 5 rfl;have AkR:L0.cell? ⟨jW,6,none⟩=some (.int .u32 dX):=cz cv.out 6 rfl;have AkS:L0.cell? ⟨jW,7,none⟩=some (.int .u32 dY):=cz cv.out 7 rfl;have AkT:L0.cell? ⟨jW,8,none⟩=some (.slice jq bH.length jr):=cz cv.out 8 rfl;have AkU:L0.cell? ⟨jW,9,none⟩=some (.slice js cE.length ju):=cz cv.out 9 rfl;have AkV:=ae cv.out 0;have AkW:=ae cv.out 1;have AkX:=ae cv.out 2;have AkY:=ae cv.out 3;have AkZ:=ae cv.out 4;have Ak0:=ae cv.out 5;have Ak1:=ae cv.out 6;have Ak2:=ae cv.out 7;have Ak3:=ae cv.out 8;have Ak4:=ae cv.out 9)|((with_reducible refine fB (b:= .append) (xs:= #[.tmp 124,.tmp 126]) rfl ?_);(try (refine eP (by rfl) ?_;dsimp only));at_builtin;refine Kd.gz (Kd.int .u8) (w0:=w) w.heap.size rfl (.tmp 124) (.tmp 126) 23 5 (.int .u8 0) 1 rfl Try.underlying23 fY rfl (by decide) (by omega) (.slice (some ⟨Hj,0,none⟩) pV.length Aj) zh cE _ _ _ (fun _=>True) (fun _=>False) rfl rfl ?aO ?aR (fun _ _ h=>h) (fun _ h=>h.elim) ?aF ?aB ?aS ?aL ?_;(case aR=>exact Kd.aW BJ.out (bz HB));(case aB=>exact bz HB);(case aF=>exact (fun _ _=>trivial));(case aO=>exact (Kd.rz jR));(case aS=>exact (af (bz HB)));(case aL=>have:=Ahr.out;omega);intro Aws w46 ho hb hg hat;rw [<- Ahs.out] at ho;have aH:=aa.mk (Kd.uO (Kd.rz lH) (Kd.rO (Kd.rz jR)) (by decide) hg);have aK:=aa.mk (gW (kz cv) hg (Kd.nk jR.out cv.out (by decide)));have bt:=aa.mk (hb);have cC:=aa.mk (ho);clear lH;clear cv;clear HB;clear jR;have lH:=aH;have cv:=aK;have HB:=bt;have Ahy:=cC;clear aH aK bt cC;clear ho hb hg hat))
    go_ret2
    exact ⟨_,by first|rfl|(simp [aj,ak]<;>rfl)|(simp [*,aj,ak]<;>rfl),by (with_reducible repeat (first|apply Kd.fg|apply Kd.eV|apply Kd.fj));exact Ahy.out,bz HB⟩
   rw [av c36] at H
   cases H
attribute [local go_sem] sB
attribute [local go_sem] sC
attribute [local go_sem] sD
attribute [local go_sem] sE
attribute [local go_sem] sG
attribute [local go_sem] sH
attribute [local go_sem] sI
attribute [local go_sem] sJ
attribute [local go_sem] sK
attribute [local go_sem] sL
attribute [local go_sem] sM
attribute [local go_sem] sN
def Hl (k:Nat) (r:LK) (si sp di dp:Int) (py:Option (List Int)):Option (List Int×Int):=
 if r.e=0 then
  if r.pr=1 /\ (0<r.qD.length /\ ¬ (sp=0 /\ dp=0) \/ ¬ sp=dp) then some ([],21)
  else py.bind fun y=>eO.f k r.a r.t r.pr r.i r.fl r.cr si di r.o y
 else some ([],r.e)
attribute [local go_sem] sB
attribute [local go_sem] sC
attribute [local go_sem] sD
attribute [local go_sem] sE
attribute [local go_sem] sG
attribute [local go_sem] sH
attribute [local go_sem] sI
attribute [local go_sem] sJ
attribute [local go_sem] sK
attribute [local go_sem] sL
attribute [local go_sem] sM
attribute [local go_sem] sN
def Bg.R6.T:Bool×List (List Nat×List Nat):=(true,[([],[]),([0],[0]),([],[]),([2],[2]),([],[]),([],[]),([],[]),([4,5,6],[4,5,6]),([0,1],[]),([8,1,7,0,1],[1,8]),([0,1,2,3,8,9],[]),([10,3,9,0,1,2,3,8,9],[3,10]),([0,1,2,3,4,5,6,7,8,9,10,11],[]),([12,7,11,0,1,2,3,4,5,6,7,8,9,10,11],[7,12])])
theorem Bg.R6.tab:gB .any (opsOf Try.f32 6)=Bg.R6.T:=by kernel_rfl
theorem Bg.R6.bits:cS Bg.R6.T.2 [0,1,0,4,0,0,0,112,3,499,1023,2047,4095,8191]=true:=by kernel_rfl
theorem DT.via (k:Nat) (A:Option Addr) (c:Nat) (l:List Int) (r:LK) (si ps di pd:Int) (py:Option (List Int)) (rb:List Int) (re:Int) (w:World) (hC:Kd.C (Kd.int .u8) w A l.length l) (hL:l.length<=c) (Y4:∀ w2:World,Kd.C (Kd.int .u8) w2 A l.length l ->Calls Try.prog 69 #[.slice A l.length c] w2 fun e w'=>r.Post w2.heap.size w2 e w') (h70:∀ y:List Int,py=some y ->∀ (w2:World) (vx:Value) (base:Nat),r.x.V w2 base vx ->Calls Try.prog 70 #[vx,.agg #[.int .u32 si,.int .u16 ps],.agg #[.int .u32 di,.int .u16 pd]] w2 fun e w'=>∃ vz:Value,e= .returned vz /\ Kd.R (Kd.int .u8) 5 w' w2.heap.size (fun _=>True) vz y /\ Below w2.heap.size w2 w') (h:Hl k r si ps di pd py=some (rb,re)):
  Calls Try.prog 32 #[.slice A l.length c,.agg #[.int .u32 si,.int .u16 ps],.agg #[.int .u32 di,.int .u16 pd]] w fun e w'=>∃ vr:Value,e= .returned (.tuple #[vr,.int .i64 re]) /\ Kd.R (Kd.int .u8) 5 w' w.heap.size (fun _=>True) vr rb /\ Below w.heap.size w w':=by
 have mM:=Try.underlying65;have iW:=Try.underlying73;have mY:=Try.underlying76;unfold Hl at h
 obtain ⟨a,t,pr,i,fl,cr,s,d,o,b,x,sp,dp,ff,qD,e_⟩:=r;have HB:=gI w;have HC:=aa.mk hC;have HL:=aa.mk hL;have HP:=aa.mk Y4;have H70:=aa.mk h70;have HF:=aa.mk h;have iM:aa ((Try.prog.info? 65).map (·.size)=some 2):=⟨by kernel_rfl⟩
 have eN:aa ((Try.prog.info? 73).map (·.size)=some 10):=⟨by kernel_rfl⟩
 have iF:aa ((Try.prog.info? 76).map (·.size)=some 7):=⟨by kernel_rfl⟩
 clear hC hL h Y4 h70
 go_enter Try.func32,Try.ntmps32
 go_upto_region 1 with (first|((with_reducible refine aA (N:=4) rfl ?_);refine aC ?fT (N:=4) ?iB (cs:= #[.int .u32 si,.int .u16 ps]) (t:=65) ?eY ?_;(case iB=>rfl);(case fT=>rfl);(case eY=>first|(go_simp;done)|(go_simp;rfl));intro gs bV w1 bw cB;have G2:=aa.mk (show w.heap.size<=gs by rw [bV];exact af HB.out);have cT:=aa.mk bw;have ai:=cB;replace HB:=mB HB ai;clear ai;clear bV bw cB)|((with_reducible refine aA (N:=5) rfl ?_);refine aC ?fT (N:=5) ?iB (cs:= #[.int .u32 di,.int .u16 pd]) (t:=65) ?eY ?_;(case iB=>rfl);(case fT=>rfl);(case eY=>first|(go_simp;done)|(go_simp;rfl));intro gd bV w2 bw cB;have Fb:=aa.mk (show w.heap.size<=gd by rw [bV];exact af HB.out);have cL:=aa.mk bw;have jA:aa (gs≠gd):=⟨by rw [bV];exact (cW cT).out⟩;have ai:=cB;replace HB:=mB HB ai;replace cT:=mX cT ai;clear ai;clear bV bw cB))
 go_wp2_with fail
 refine (HP.out _ (Kd.aW HC.out HB.out)).mono ?_;rintro ev w3 hpost;obtain ⟨vo,vb,vx,vi,rfl,ho,qd,hx,hi,hb⟩:=hpost;dsimp only at ho qd hx hi
 have bL:=lO ho HB;obtain ⟨Ao,co,rfl,_,_⟩:=Kd.cj ho;clear ho;have bI:=lO qd HB;obtain ⟨Ab,cb,rfl,_,_⟩:=Kd.cj qd;clear qd;have kP:=aa.mk (Kd.bP hi (af HB.out));obtain ⟨Ai,ci,rfl,_,_⟩:=Kd.cj hi;clear hi;have HV:=aa.mk hx;clear hx;have ai:=hb;replace HB:=mB HB ai;replace cT:=mX cT ai;replace cL:=mX cL ai;clear ai;clear hb HP
 (try dsimp only)
 go_upto_region 2 with (first|((with_reducible refine aA (N:=8) rfl ?_);refine aC ?fT (N:=8) ?iB (cs:=jL) (t:=73) ?eY ?_;(case iB=>rfl);(case fT=>rfl);(case eY=>first|(go_simp;done)|(go_simp;rfl));intro gp bV w4 bw cB;have lV:=aa.mk (show w.heap.size<=gp by rw [bV];exact af HB.out);have aZ:=aa.mk bw;have ai:=cB;replace HB:=mB HB ai;replace cT:=mX cT ai;replace cL:=mX cL ai;replace bL:=mR bL ai;replace bI:=mR bI ai;replace kP:=mI kP ai;replace HV:=mV HV ai;clear ai;clear bV bw cB)|((with_reducible refine aA (N:=10) rfl ?_);refine aC ?fT (N:=10) ?iB (cs:=lN) (t:=76) ?eY ?_;(case iB=>rfl);(case fT=>rfl);(case eY=>first|(go_simp;done)|(go_simp;rfl));intro gf bV w5 bw cB;have mO:=aa.mk (show w.heap.size<=gf by rw [bV];exact af HB.out);have bS:=aa.mk bw;have ai:=cB;replace HB:=mB HB ai;replace cT:=mX cT ai;replace cL:=mX cL ai;replace bL:=mR bL ai;replace bI:=mR bI ai;replace kP:=mI kP ai;replace HV:=mV HV ai;replace aZ:=mX aZ ai;clear ai;clear bV bw cB)|((refine dh rfl rfl rfl rfl rfl aZ.out eN.out rfl (by simp [Value.oneCell']) ?_);intro w6 hs_ ag;replace cT:=oX ag cT aZ (by decide);replace cL:=oX ag cL aZ (by decide);replace bL:=oR ag bL aZ (by decide);replace bI:=oR ag bI aZ (by decide);replace kP:=oI ag kP aZ (by decide);replace HV:=oV ag HV aZ (by decide);replace bS:=oX ag bS aZ (by decide);replace HB:=oB ag HB lV;clear ag;replace aZ:=aa.mk hs_;clear hs_)|((refine dh rfl rfl rfl rfl rfl bS.out iF.out rfl (by simp [Value.oneCell']) ?_);intro w7 hs_ ag;replace cT:=oX ag cT bS (by decide);replace cL:=oX ag cL bS (by decide);replace bL:=oR ag bL bS (by decide);replace bI:=oR ag bI bS (by decide);replace kP:=oI ag kP bS (by decide);replace HV:=oV ag HV bS (by decide);replace aZ:=oX ag aZ bS (by decide);replace HB:=oB ag HB mO;clear ag;replace bS:=aa.mk hs_;clear hs_))
 have H:=HF.out;clear HF
 (try dsimp only at H)
 by_cases ce:e_=0
 rotate_left
 ·have Ad:(e_==0)=false:=fq ce
  have G1:(e_ !=0)=true:=bne_iff_ne.2 ce;rw [av ce] at H
  clear ce;simp only [Option.some.injEq,Prod.mk.injEq] at H
  obtain ⟨rfl,rfl⟩:=H
  (try dsimp only)
  go_wp2
  (try simp only [Exit.inBlock,Exit.then])
  go_ret2
  exact ⟨_,rfl,Kd.bX _ _ _ _ _,HB.out⟩
 have Ad:(e_==0)=true:=fF ce
 have G1:(e_ !=0)=false:=by rw [bne,Ad];rfl
 rw [aq ce] at H
 clear ce;have ApF:=cz bS.out 0 rfl;have Th:=cz bS.out 6 rfl;have Cg:=cz cT.out 1 rfl;have J1:=cz cL.out 1 rfl
 by_cases hc:pr=1 /\ (0<qD.length /\ ¬ (ps=0 /\ pd=0) \/ ¬ ps=pd)
 ·rw [aq hc] at H
  simp only [Option.some.injEq,Prod.mk.injEq] at H
  obtain ⟨rfl,rfl⟩:=H;have h3:(pr=1 /\ 0<qD.length /\ ps=0 /\ ¬ pd=0) \/ (pr=1 /\ 0<qD.length /\ ¬ ps=0) \/ (pr=1 /\ ¬ 0<qD.length /\ ¬ ps=pd):=by omega
  clear hc
  rcases h3 with ⟨np,ni,ns,nd⟩|⟨np,ni,ns⟩|⟨np,ni,ne⟩
  ·have Pv:(pr==1)=true:=fF np;have Y9:(pr !=1)=false:=(by rw [bne,Pv];rfl);have Qv:decide (0<(qD.length:Int))=true:=bN (by omega);have Qw:decide (0<qD.length)=true:=bN (by omega);have ns1:(ps==0)=true:=fF ns;have ns2:(ps !=0)=false:=(by rw [bne,ns1];rfl);have nd1:(pd==0)=false:=fq nd;have nd2:(pd !=0)=true:=bne_iff_ne.2 nd;clear np ni ns nd;(try dsimp only);go_wp2;(try simp only [Exit.inBlock,Exit.then]);go_ret2;exact ⟨_,rfl,Kd.bX _ _ _ _ _,HB.out⟩
  ·have Pv:(pr==1)=true:=fF np;have Y9:(pr !=1)=false:=(by rw [bne,Pv];rfl);have Qv:decide (0<(qD.length:Int))=true:=bN (by omega);have Qw:decide (0<qD.length)=true:=bN (by omega);have ns1:(ps==0)=false:=fq ns;have ns2:(ps !=0)=true:=bne_iff_ne.2 ns;clear np ni ns;(try dsimp only);go_wp2;(try simp only [Exit.inBlock,Exit.then]);go_ret2;exact ⟨_,rfl,Kd.bX _ _ _ _ _,HB.out⟩
  ·have Pv:(pr==1)=true:=fF np;have Y9:(pr !=1)=false:=(by rw [bne,Pv];rfl);have Qv:decide (0<(qD.length:Int))=false:=gN (by omega);have Qw:decide (0<qD.length)=false:=gN (by omega);have ne1:(ps==pd)=false:=fq ne;have ne2:(ps !=pd)=true:=bne_iff_ne.2 ne;clear np ni ne;(try dsimp only);go_wp2;(try simp only [Exit.inBlock,Exit.then]);go_ret2;exact ⟨_,rfl,Kd.bX _ _ _ _ _,HB.out⟩
 rw [av hc] at H
 obtain ⟨y,hy,H⟩:=bR H;have HY:=aa.mk hy;have HG:=aa.mk H;clear hy H;have h3:(¬ pr=1) \/ (pr=1 /\ 0<qD.length /\ ps=0 /\ pd=0) \/ (pr=1 /\ ¬ 0<qD.length /\ ps=pd):=by omega
 clear hc
 rcases h3 with np|⟨np,ni,ns,nd⟩|⟨np,ni,ne⟩
 all_goals first
  |(have Pv:(pr==1)=false:=fq np;have Y9:(pr !=1)=true:=bne_iff_ne.2 np;clear np;(try dsimp only);go_upto_region 6 with (fail);clear Pv Y9)
  |(have Pv:(pr==1)=true:=fF np;have Y9:(pr !=1)=false:=(by rw [bne,Pv];rfl);have Qv:decide (0<(qD.length:Int))=true:=bN (by omega);have Qw:decide (0<qD.length)=true:=bN (by omega);have ns1:(ps==0)=true:=fF ns;have ns2:(ps !=0)=false:=(by rw [bne,ns1];rfl);have nd1:(pd==0)=true:=fF nd;have nd2:(pd !=0)=false:=(by rw [bne,nd1];rfl);have ne:ps=pd:=(by omega);have ne1:(ps==pd)=true:=fF ne;have ne2:(ps !=pd)=false:=(by rw [bne,ne1];rfl);clear np ni ns nd ne;(try dsimp only);go_upto_region 6 with (fail);clear Pv Y9 Qv Qw ns1 ns2 nd1 nd2 ne1 ne2)
  |(have Pv:(pr==1)=true:=fF np;have Y9:(pr !=1)=false:=(by rw [bne,Pv];rfl);have Qv:decide (0<(qD.length:Int))=false:=gN (by omega);have Qw:decide (0<qD.length)=false:=gN (by omega);have ne1:(ps==pd)=true:=fF ne;have ne2:(ps !=pd)=false:=(by rw [bne,ne1];rfl);clear np ni ne;(try dsimp only);go_upto_region 6 with (fail);clear Pv Y9 Qv Qw ne1 ne2)
 all_goals
  clear ApF Th Cg J1;refine dB (n:=14) (S:=fun w'=>w'.heap[gs]?=some (.cells #[.int .u32 si,.int .u16 ps] 65 (0,0)) /\ w'.heap[gd]?=some (.cells #[.int .u32 di,.int .u16 pd] 65 (0,0))) (ds:=[]) #[false,false,false,false,false,false,false,false,false,false,false,false,false,false] (by kernel_rfl) rfl rfl ⟨cT.out,cL.out⟩ (fun hHeld=> ?_);refine bF Bg.R6.tab Bg.R6.bits (fun ax eu=> ?_);have ai:=bf (Below.refl w7.heap.size w7);replace HB:=mB HB ai;replace cT:=mX cT ai;replace cL:=mX cL ai;replace bL:=mR bL ai;replace bI:=mR bI ai;replace kP:=mI kP ai;replace HV:=mV HV ai;replace aZ:=mX aZ ai;replace bS:=mX bS ai;clear ai;generalize w7.drew=w8 at HB cT cL bL bI kP HV aZ bS hHeld|-
  refine pz 0 48 ax ?_;refine pz 2 50 ax ?_;refine pz 4 52 ax ?_;refine gF (i:=1) (N:=some 49) (v:= ?_) (a':= ?_) #[true,true,true,false,true,false,false,false,false,false,false,false,false,false] rfl rfl (dm ax.out eu.out (by kernel_rfl)) (fun _ _ _ h=>h) (Or.inl ⟨by rfl, ?_⟩) hHeld ?_ ?_
  rotate_left
  ·intro w' s0
   obtain ⟨s0,s1⟩:=s0;have Za:=(aN s0 0).trans (rfl:_=some (.int .u32 si:Value))
   go_simp
   with_reducible rfl
  rotate_left
  ·simp only [pG]
   rfl
  refine pz 8 56 ax ?_;refine gF (i:=3) (N:=some 51) (v:= ?_) (a':= ?_) #[true,true,true,true,true,false,false,false,true,false,false,false,false,false] rfl rfl (dm ax.out eu.out (by kernel_rfl)) (fun _ _ _ h=>h) (Or.inl ⟨by rfl, ?_⟩) hHeld ?_ ?_
  rotate_left
  ·intro w' s0
   obtain ⟨s0,s1⟩:=s0;have Za:=(aN s1 0).trans (rfl:_=some (.int .u32 di:Value))
   go_simp
   with_reducible rfl
  rotate_left
  ·simp only [pG]
   rfl
  refine tv 5 53 (.agg #[.int .u32 si,.int .u16 ps]) ax eu hHeld ?_ ?_
  ·intro w' s0
   obtain ⟨s0,s1⟩:=s0;exact bM (p:= .tmp 4) (ty:=65) (by rfl) (by rfl) s0 mM (by rfl) iM.out
  refine nz 53 ?_;refine tv 6 54 (.agg #[.int .u32 di,.int .u16 pd]) ax eu hHeld ?_ ?_
  ·intro w' s0
   obtain ⟨s0,s1⟩:=s0;exact bM (p:= .tmp 5) (ty:=65) (by rfl) (by rfl) s1 mM (by rfl) iM.out
  refine nz 54 ?_;refine oz 7 (some 55) ax (fun K hK=> ?_);refine i9 Try.func70 (by kernel_rfl) rfl #[vx,.agg #[.int .u32 si,.int .u16 ps],.agg #[.int .u32 di,.int .u16 pd]] (by rfl) rfl rfl (by first|rfl|(go_simp;done)|(go_simp;rfl)|(go_simp;decide)) ?_;refine (H70.out y HY.out _ vx _ HV.out).mono ?_;rintro ev w9 ⟨vy,rfl,ho,hb⟩;have wR:=aa.mk (Kd.bP ho (af HB.out));obtain ⟨Ay,cy,rfl,_,_⟩:=Kd.cj ho;clear ho HY;have ai:=hb;replace HB:=mB HB ai;replace cT:=mX cT ai;replace cL:=mX cL ai;replace bL:=mR bL ai;replace bI:=mR bI ai;replace kP:=mI kP ai;replace HV:=mV HV ai;replace aZ:=mX aZ ai;replace bS:=mX bS ai;clear ai;clear hb;refine ⟨_,rfl, ?_⟩;refine hK.out _ _ ⟨cT.out,cL.out⟩ (fun hHeld=> ?_);clear hK K;refine nz 55 ?_;refine oz 9 (none) ax (fun K hK=> ?_)
  refine iy (i:=6) (v:= .int .u32 si) (cs':= #[.int .u8 a,.int .u8 t,.int .u8 pr,.int .u16 i,.int .u8 fl,.int .u16 cr,.int .u32 si,.int .u32 d,.slice Ao o.length co,.slice Ab b.length cb]) (by rfl) (by rfl) aZ.out rfl (by (have m_:=(aN aZ.out 6).trans (rfl:_=some (.int .u32 s:Value)));(have pU:=ae aZ.out 6);first|(go_simp;done)|(go_simp;rfl)) ?_;intro ku hs_ ag;replace cT:=oX ag cT aZ (by decide);replace cL:=oX ag cL aZ (by decide);replace bL:=oR ag bL aZ (by decide);replace bI:=oR ag bI aZ (by decide);replace kP:=oI ag kP aZ (by decide);replace HV:=oV ag HV aZ (by decide);replace bS:=oX ag bS aZ (by decide);replace wR:=oR ag wR aZ (by decide);replace HB:=oB ag HB lV;clear ag;replace aZ:=aa.mk hs_;clear hs_
  refine hK.out _ _ ⟨cT.out,cL.out⟩ (fun hHeld=> ?_);clear hK K;refine pz 10 57 ax ?_;refine oz 11 (none) ax (fun K hK=> ?_);refine iy (i:=7) (v:= .int .u32 di) (cs':= #[.int .u8 a,.int .u8 t,.int .u8 pr,.int .u16 i,.int .u8 fl,.int .u16 cr,.int .u32 si,.int .u32 di,.slice Ao o.length co,.slice Ab b.length cb]) (by rfl) (by rfl) aZ.out rfl (by (have m_:=(aN aZ.out 7).trans (rfl:_=some (.int .u32 d:Value)));(have pU:=ae aZ.out 7);first|(go_simp;done)|(go_simp;rfl)) ?_;intro sn hs_ ag;replace cT:=oX ag cT aZ (by decide);replace cL:=oX ag cL aZ (by decide);replace bL:=oR ag bL aZ (by decide);replace bI:=oR ag bI aZ (by decide);replace kP:=oI ag kP aZ (by decide);replace HV:=oV ag HV aZ (by decide);replace bS:=oX ag bS aZ (by decide)
  replace wR:=oR ag wR aZ (by decide);replace HB:=oB ag HB lV;clear ag;replace aZ:=aa.mk hs_;clear hs_;refine hK.out _ _ ⟨cT.out,cL.out⟩ (fun hHeld=> ?_);clear hK K;refine pz 12 58 ax ?_;refine oz 13 (none) ax (fun K hK=> ?_);refine iy (i:=9) (v:= .slice Ay y.length cy) (cs':= #[.int .u8 a,.int .u8 t,.int .u8 pr,.int .u16 i,.int .u8 fl,.int .u16 cr,.int .u32 si,.int .u32 di,.slice Ao o.length co,.slice Ay y.length cy]) (by rfl) (by rfl) aZ.out rfl (by (have m_:=(aN aZ.out 9).trans (rfl:_=some (.slice Ab b.length cb:Value)));(have pU:=ae aZ.out 9);first|(go_simp;done)|(go_simp;rfl)) ?_;intro nP hs_ ag;replace cT:=oX ag cT aZ (by decide);replace cL:=oX ag cL aZ (by decide);replace bL:=oR ag bL aZ (by decide);replace bI:=oR ag bI aZ (by decide)
  replace kP:=oI ag kP aZ (by decide);replace HV:=oV ag HV aZ (by decide);replace bS:=oX ag bS aZ (by decide);replace wR:=oR ag wR aZ (by decide);replace HB:=oB ag HB lV;clear ag;replace aZ:=aa.mk hs_;clear hs_;refine hK.out _ _ ⟨cT.out,cL.out⟩ (fun hHeld=> ?_);clear hK K;refine dz ax ?_;clear ax eu hHeld;have H:=HG.out;clear HG
  (try dsimp only)
  go_wp2_with (refine Kd.bU rfl (bM rfl rfl aZ.out Try.underlying73 rfl eN.out) ?_)
  refine (eO.calls k a t pr i fl cr si di Ao co o Ay cy y rb re _ (Kd.ay bL.out).2.2 (Kd.ay bL.out).2.1 (Kd.ay wR.out).2.2 (Kd.ay wR.out).2.1 H).mono ?_;rintro ev yD ⟨vr,rfl,ho,hb⟩;have Mb:=aa.mk (Kd.bP ho (af HB.out));clear ho;have ai:=hb;replace HB:=mB HB ai;replace cT:=mX cT ai;replace cL:=mX cL ai;replace bL:=mR bL ai;replace bI:=mR bI ai;replace kP:=mI kP ai;replace HV:=mV HV ai;replace aZ:=mX aZ ai;replace bS:=mX bS ai;replace wR:=mR wR ai;clear ai;clear hb
  (try dsimp only)
  go_wp2
  (try simp only [Exit.inBlock,Exit.then])
  go_ret2
  exact ⟨_,rfl,Mb.out,HB.out⟩
theorem ke (g o j:Nat):(⟨g,o,none⟩:Addr).add j=⟨g,o+j,none⟩:=by
 unfold Addr.add
 split<;>simp_all
theorem Mc {w:World} {base c g n e:Nat} {ok:Nat ->Prop} {xs:List Int} (hR:Kd.R (Kd.int .u8) e w base ok (.slice (some ⟨g,0,none⟩) n c) xs) (j:Nat) (hj:j<xs.length):Kd.C (Kd.int .u8) w (some ⟨g,j,none⟩) (xs.drop j).length (xs.drop j):=by
 obtain ⟨h1,h2,h3⟩:=Kd.ay hR;have h:=Kd.Aah (m:=j) (c:=c) h3 (Nat.le_of_lt hj) (by omega);rw [av (by omega)] at h
 have e1:(Kd.int .u8).sz=1:=rfl;rw [e1] at h
 simp only [Option.map_some,ke,Nat.zero_add,Nat.mul_one] at h
 exact h
theorem AcD {w:World} {base c g n e:Nat} {ok:Nat ->Prop} {xs:List Int} (hR:Kd.R (Kd.int .u8) e w base ok (.slice (some ⟨g,0,none⟩) n c) xs) (m:Nat) (hm:m<=xs.length):Kd.C (Kd.int .u8) w (some ⟨g,0,none⟩) (xs.take m).length (xs.take m):=Kd.Aag (Kd.ay hR).2.2 hm
theorem CU {P:Program} (t e:TypeId) (kh:IntKind) {i:TypeInfo} (ht:P.underlying t=some (.slice e)) (hi:P.info? e=some i) (hs:i.size=1) (g o n c:Nat) (x:Int) (j:Nat) (hx:x=(j:Int)) (hm:j<=n) (hc:j<c):∀ W:World,(Instr.slice t (.slice (some ⟨g,o,none⟩) n c) (some (.int kh x)) none none).run P W= .ok (.slice (some ⟨g,o+j,none⟩) (n - j) (c - j)) W:=by
 subst hx;intro W;have h:=QJ (P:=P) t e kh ht hi 1 hs (some ⟨g,o,none⟩) n c (j:Int) (by omega) (by omega) W;rw [Int.toNat_natCast,av (by omega)] at h
 simp only [Option.map_some,ke,Nat.mul_one] at h
 exact h
theorem j7.trans {W w1 w2:World} {g:Nat} (h:j7 W w1 g) (h2:j7 w1 w2 g):j7 W w2 g:=⟨h2.os.trans h.os,h2.tape.trans h.tape,h2.output.trans h.output,h2.size.trans h.size,fun k hk=>(h2.far k hk).trans (h.far k hk)⟩
theorem qw {P:Program} {o:Oper} {ev:Operand ->Value} {W:World} {t e:TypeId} (hu:P.underlying t=some (.slice e)) {x lo:Operand} {vx vl r:Value} (ho:o.op= .slice t x (some lo) none none) (hx:ev x=vx) (hl:ev lo=vl) (h:(Instr.slice t vx (some vl) none none).run P W= .ok r W):(execOp ev o).run P W= .ok (.value r) W:=by
 unfold execOp;simp only [ho,Option.map_some,Option.map_none,hx,hl]
 simp [Instr.sliceAt,underlying,hu,h,Sem.run_bind,Result.andThen]
theorem Md {P:Program} {o:Oper} {ev:Operand ->Value} {W:World} {t e:TypeId} (hu:P.underlying t=some (.slice e)) {x lo:Operand} {vx vl r:Value} (ho:o.op= .slice t x none (some lo) none) (hx:ev x=vx) (hl:ev lo=vl) (h:(Instr.slice t vx none (some vl) none).run P W= .ok r W):(execOp ev o).run P W= .ok (.value r) W:=by
 unfold execOp;simp only [ho,Option.map_some,Option.map_none,hx,hl]
 simp [Instr.sliceAt,underlying,hu,h,Sem.run_bind,Result.andThen]
def ig (xs:List Int) (j:Nat) (a:Int):List Int:=(xs.set j (a / 256 % 256)).set (j+1) (a % 256)
theorem pW (xs:List Int) (j:Nat) (a:Int):(ig xs j a).length=xs.length:=by unfold ig;rw [List.length_set,List.length_set]
theorem Ho (g j m c c2 base:Nat) (ok:Nat ->Prop) (xs:List Int) (n:Nat) (a1:Int) (w:World) (hR:Kd.R (Kd.int .u8) 5 w base ok (.slice (some ⟨g,0,none⟩) n c) xs) (hj:j+2<=n) (hm:2<=m):
  Calls Try.prog 89 #[.slice (some ⟨g,j,none⟩) m c2,.int .u16 a1] w fun e w'=>e= .returned (.tuple #[]) /\ Kd.R (Kd.int .u8) 5 w' base ok (.slice (some ⟨g,0,none⟩) n c) (ig xs j a1) /\ j7 w w' g:=by
 obtain ⟨hc0,hf0⟩:=Kd.lg (0:Int) hR (j:Int) (by omega) (by omega);have Zb:=Kd.Dd hR (j:Int) (a1 / 256 % 256);obtain ⟨hc1,hf1⟩:=Kd.lg (0:Int) Zb ((j+1:Nat):Int) (by omega) (by omega);have hR2:=Kd.Dd Zb ((j+1:Nat):Int) (a1 % 256);rw [Int.toNat_natCast] at hc0 hf0 Zb hc1 hf1 hR2
 rw [Int.toNat_natCast] at hc1 hf1 hR2
 have HR:=aa.mk hR2;have HO1:=aa.mk (j7.setCell w g j (.int .u8 (a1 / 256 % 256)));have b0:decide (0<(m:Int))=true:=bN (by omega);have b1:decide (0<m)=true:=bN (by omega);have b2:decide (1<(m:Int))=true:=bN (by omega);have b3:decide (1<m)=true:=bN (by omega);have b4:(0<m)=True:=eq_true (by omega);have b5:(1<m)=True:=eq_true (by omega);have b6:((m:Int)<=1)=False:=eq_false (by omega);have b7:(m<=1)=False:=eq_false (by omega);have b8:((1:Int)<(m:Int))=True:=eq_true (by omega);have jx:=aa.mk hc0;have HF0:=aa.mk hf0;have HC1:=aa.mk hc1;have HF1:=aa.mk hf1;clear hR Zb hR2 hj hm hc0 hf0 hc1 hf1
 go_enter Try.func89,Try.ntmps89
 go_wp2_with (first|((refine lX rfl rfl (w1:=w.setCell ⟨g,j,none⟩ (.int .u8 (a1 / 256 % 256))) ?eY ?_);(case eY=>(have m_:=jx.out);(have pU:=HF0.out);first|(go_simp;done)|(go_simp;rfl));have XS:=aa.mk (HO1.out.trans (j7.setCell (w.setCell ⟨g,j,none⟩ (.int .u8 (a1 / 256 % 256))) g (j+1) (.int .u8 (a1 % 256))));clear HO1;(have m_:=HC1.out);(have pU:=HF1.out);generalize hw1:w.setCell ⟨g,j,none⟩ (.int .u8 (a1 / 256 % 256))=w1 at HR m_ pU XS|-;clear hw1)|((refine lX rfl rfl (w1:=w1.setCell ⟨g,j+1,none⟩ (.int .u8 (a1 % 256))) ?eY ?_);(case eY=>first|(go_simp;done)|(go_simp;rfl))))
 first|go_end0|((try simp only [Exit.inBlock,Exit.then]);refine bodyPost_ret (results_none rfl _ _ _) rfl ?_)
 exact ⟨rfl,HR.out,XS.out⟩
def rE.f (k:Nat) (l:List Int) (head:Nat):Option (List Int):=(mK.f k ((ig l 10 0).take head)).bind fun c=>some (ig (ig l 10 0) 10 c)
def rE.R2.T:Bool×List (List Nat×List Nat):=(true,[([],[]),([0],[0]),([],[]),([],[]),([2,3],[2,3]),([4],[4]),([1,5,5],[1,5])])
theorem rE.R2.tab:gB .any (opsOf Try.f78 2)=rE.R2.T:=by kernel_rfl
theorem rE.R2.bits:cS rE.R2.T.2 [0,1,0,0,12,28,63]=true:=by kernel_rfl
theorem rE.calls (k g n c hd:Nat) (l r:List Int) (w0 w:World) (hR:Kd.R (Kd.int .u8) 5 w w0.heap.size (fun _=>True) (.slice (some ⟨g,0,none⟩) n c) l) (hB:Below w0.heap.size w0 w) (hg:w0.heap.size<=g) (IW:12<=n) (hhd:hd<=n) (h:rE.f k l hd=some r):
  Calls Try.prog 78 #[.slice (some ⟨g,0,none⟩) n c,.int .i64 (hd:Int)] w fun e w'=>e= .returned (.slice (some ⟨g,0,none⟩) n c) /\ Kd.R (Kd.int .u8) 5 w' w0.heap.size (fun _=>True) (.slice (some ⟨g,0,none⟩) n c) r /\ Below w0.heap.size w0 w':=by
 unfold rE.f at h
 obtain ⟨i0,Iq,_,hsz,_⟩:=info_parts fY;obtain ⟨s,hs,h⟩:=bR h;obtain rfl:=cN h;have hl:=(Kd.ay hR).1;have hc:=(Kd.ay hR).2.1;have hcut:=CU (P:=Try.prog) 23 5 .i64 Try.underlying23 Iq hsz g 0 n c 10 10 rfl (by omega) (by omega);have Fy:=Ra (P:=Try.prog) 23 5 .i64 Try.underlying23 Iq (some ⟨g,0,none⟩) n c (hd:Int) hd rfl (by omega) hc;rw [Nat.zero_add] at hcut
 have ApI:=aa.mk hcut;have AhA:=aa.mk Fy;have HR:=aa.mk hR;have HB:=aa.mk hB;have HG:=aa.mk hg;have HS:=aa.mk hs;have HLH:aa (hd<=(ig l 10 0).length):=⟨by rw [pW];omega⟩
 have HTL:aa (((ig l 10 0).take hd).length=hd):=⟨by rw [List.length_take,pW];omega⟩
 have HLC:aa (((ig l 10 0).take hd).length<=c):=⟨by rw [HTL.out];omega⟩
 have AhB:aa (10+2<=n):=⟨by omega⟩
 have O5:aa (2<=n - 10):=⟨by omega⟩
 clear hR hB hg hs hl hc Fy Iq hsz IW hhd
 go_enter Try.func78,Try.ntmps78
 go_wp2_with fail
 clear hcut;refine (Ho g 10 (n - 10) c (c - 10) w0.heap.size (fun _=>True) l n 0 _ HR.out AhB.out O5.out).mono ?_;rintro e w1 ⟨rfl,hr,ho⟩;have DU:=aa.mk hr;have gY:=aa.mk (j7.below ho HB.out HG.out);clear HR HB hr ho;have HR:=DU;have HB:=gY;clear DU gY
 (try dsimp only)
 go_upto_region 2 with (fail)
 refine dB (n:=7) (S:=fun _=>True) (ds:=[]) #[false,false,false,false,false,false,false] (by kernel_rfl) rfl rfl trivial (fun hHeld=> ?_);refine bF rE.R2.tab rE.R2.bits (fun ax eu=> ?_);have ai:=bf (Below.refl w1.heap.size w1);have DU:=aa.mk (Kd.fX HR.out ai);have gY:=aa.mk (au HB.out ai);clear HR HB ai;have HR:=DU;have HB:=gY;clear DU gY;generalize w1.drew=w2 at HR HB hHeld|-
 refine pz 0 8 ax ?_;refine pv 1 9 (.slice (some ⟨g,10,none⟩) (n - 10) (c - 10)) ax ?_ ?_
 ·intro w'
  exact qw (vx:= .slice (some ⟨g,0,none⟩) n c) (vl:= .int .i64 10) Try.underlying23 (by rfl) (by rfl) (by rfl) (ApI.out w')
 refine nz 9 ?_;refine pz 2 10 ax ?_;refine pz 3 11 ax ?_;refine pv 4 12 (.slice (some ⟨g,0,none⟩) hd c) ax ?_ ?_
 ·intro w'
  exact Md (vx:= .slice (some ⟨g,0,none⟩) n c) (vl:= .int .i64 (hd:Int)) Try.underlying23 (by rfl) (by rfl) (by rfl) (AhA.out w')
 refine nz 12 ?_;refine oz 5 (some 13) ax (fun K hK=> ?_);refine i9 Try.func90 (by kernel_rfl) rfl #[.slice (some ⟨g,0,none⟩) hd c] (by rfl) rfl rfl (by first|rfl|(go_simp;done)|(go_simp;rfl)|(go_simp;decide)) ?_;have h90:=mK.calls k (some ⟨g,0,none⟩) c ((ig l 10 0).take hd) s _ (AcD HR.out hd HLH.out) HLC.out HS.out;rw [HTL.out] at h90
 refine h90.mono ?_;clear h90;rintro e w3 ⟨rfl,hb⟩;have DU:=aa.mk (Kd.fX HR.out hb);have gY:=aa.mk (au HB.out hb);clear HR HB hb;have HR:=DU;have HB:=gY;clear DU gY;refine ⟨_,rfl, ?_⟩;refine hK.out _ _ trivial (fun hHeld=> ?_);clear hK K;refine nz 13 ?_;refine oz 6 (some 14) ax (fun K hK=> ?_);refine i9 Try.func89 (by kernel_rfl) rfl #[.slice (some ⟨g,10,none⟩) (n - 10) (c - 10),.int .u16 s] (by rfl) rfl rfl (by first|rfl|(go_simp;done)|(go_simp;rfl)|(go_simp;decide)) ?_;refine (Ho g 10 (n - 10) c (c - 10) w0.heap.size (fun _=>True) (ig l 10 0) n s _ HR.out AhB.out O5.out).mono ?_;rintro e w4 ⟨rfl,hr,ho⟩;have DU:=aa.mk hr;have gY:=aa.mk (j7.below ho HB.out HG.out);clear HR HB hr ho;have HR:=DU;have HB:=gY;clear DU gY;refine ⟨_,rfl, ?_⟩
 refine hK.out _ _ trivial (fun hHeld=> ?_);clear hK K;refine nz 14 ?_;refine dz ax ?_;clear ax eu hHeld
 (try dsimp only)
 go_wp2
 (try simp only [Exit.inBlock,Exit.then])
 go_ret
 exact ⟨rfl,HR.out,HB.out⟩
end Go.Proofs.Ytkmimamminddiaa.PB
