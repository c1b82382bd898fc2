/- Texts of this claim, merged: RwRlk, RwLkE, RwChE, RwRinn0, RwRinn, RwInE, RwInC, RwInnL, RwAgg. -/
import Derived.Test.YtkmimamminddiaaZnb
import Derived.Test.YtkmimamminddiaaZng
import Derived.Deep.Cut
import Derived.Deep.CutRange
import Derived.Deep.CutBlock
import Derived.Deep.WholeRow
import Derived.Test.YtkmimamminddiaaZnf
import Derived.Test.YtkmimamminddiaaZnd
import Derived.Test.YtkmimamminddiaaZne
import Derived.Test.YtkmimamminddiaaZna
import Derived.Test.YtkmimamminddiaaChecked
import Derived.OpenShut
import Derived.ChangeArms
set_option maxHeartbeats 40000000
set_option maxRecDepth 100000
set_option linter.unusedVariables false
set_option linter.unusedSimpArgs false
namespace Go.Proofs.Ytkmimamminddiaa.PB
open Go.RowKit Go.Proofs.ah.bT Go.Proofs.ah.cY Go.Proofs.ah.iw
open Go.Proofs.Ytkmimamminddiaa.Spec Go.Proofs.Ytkmimamminddiaa.Pure
theorem rlk.udp (k:Nat) (A:Option Addr) (c:Nat) (l:List Int) (a t i fl cr s d:Int) (o b:List Int) (r:LK) (w:World) (hC:Kd.C (Kd.int .u8) w A l.length l) (hL:l.length<=c) (hP:bC.f k l=some (a,t,17,i,fl,cr,s,d,o,b,0)) (h:EM k a t i fl cr s d o b=some r):
  Calls Try.prog 66 #[.slice A l.length c] w fun e w'=>r.Told w.heap.size w e w':=by
 have mM:=Try.underlying65;have iW:=Try.underlying73;have nO:=Try.underlying124;have zO:=Try.underlying83;have HB:=gI w;have HC:=aa.mk hC;have HL:=aa.mk hL;have HP:=aa.mk hP;have HF:=aa.mk h;have iM:aa ((Try.prog.info? 65).map (·.size)=some 2):=⟨by kernel_rfl⟩
 have eN:aa ((Try.prog.info? 73).map (·.size)=some 10):=⟨by kernel_rfl⟩
 have iS:aa ((Try.prog.info? 124).map (·.size)=some 7):=⟨by kernel_rfl⟩
 have yj:aa ((Try.prog.info? 83).map (·.size)=some 4):=⟨by kernel_rfl⟩
 clear hC hL hP h
 go_enter Try.func66,Try.ntmps66
 go_upto_region 1 with (first|((with_reducible refine aA (N:=2) rfl ?_);refine aC ?fT (N:=2) ?iB (cs:=jL) (t:=73) ?eY ?_;(case iB=>rfl);(case fT=>rfl);(case eY=>first|(go_simp;done)|(go_simp;rfl));intro gi bV w1 bw cB;have kM:=aa.mk (show w.heap.size<=gi by rw [bV];exact af HB.out);have bg:=aa.mk bw;have ai:=cB;replace HB:=mB HB ai;clear ai;clear bV bw cB)|((with_reducible refine aA (N:=3) rfl ?_);refine aC ?fT (N:=3) ?iB (cs:=lN) (t:=124) ?eY ?_;(case iB=>rfl);(case fT=>rfl);(case eY=>first|(go_simp;done)|(go_simp;rfl));intro gq bV w2 bw cB;have mN:=aa.mk (show w.heap.size<=gq by rw [bV];exact af HB.out);have br:=aa.mk bw;have ai:=cB;replace HB:=mB HB ai;replace bg:=mX bg ai;clear ai;clear bV bw cB))
 go_wp2_with fail
 refine (bC.calls k A c l a t 17 i fl cr s d o b 0 _ (Kd.aW HC.out HB.out) HL.out HP.out).mono ?_;rintro ev w3 ⟨vo,vb,rfl,ho,qd,hb⟩;have bL:=lO ho HB;obtain ⟨Ao,co,rfl,_,_⟩:=Kd.cj ho;clear ho;have bI:=lO qd HB;obtain ⟨Ab,cb,rfl,_,_⟩:=Kd.cj qd;clear qd;have ai:=hb;replace HB:=mB HB ai;replace bg:=mX bg ai;replace br:=mX br ai;clear ai;clear hb HP HC HL
 (try dsimp only)
 go_upto_region 2 with (((refine fc rfl rfl rfl rfl rfl eN.out rfl (by simp [Value.oneCell']) ?_);intro fU gV dg))
 revert fU gV dg;intro w4 gV dg;have aZ:aa (w4.heap[w3.heap.size]?=some (.cells #[.int .u8 a,.int .u8 t,.int .u8 17,.int .u16 i,.int .u8 fl,.int .u16 cr,.int .u32 s,.int .u32 d,.slice Ao o.length co,.slice Ab b.length cb] 73 (0,0))):=⟨gV⟩
 have lV:=yY HB;have cu:=cW bg;have ai:=dg;replace HB:=mB HB ai;replace bg:=mX bg ai;replace br:=mX br ai;replace bL:=mR bL ai;replace bI:=mR bI ai;clear ai;clear gV dg;generalize w3.heap.size=gp at aZ lV cu|-
 have oL:=cz aZ.out 2 rfl;have uG:=cz aZ.out 6 rfl;have vM:=cz aZ.out 7 rfl
 go_upto_region 5 with (((refine fc rfl rfl rfl rfl rfl iS.out rfl (by simp [Value.oneCell']) ?_);intro fU gV dg))
 clear oL uG vM;revert fU gV dg;intro w5 gV dg;have bS:aa (w5.heap[w4.heap.size]?=some (.cells #[.int .u8 17,.int .u32 s,.int .u16 0,.int .u32 d,.int .u16 0,.int .u8 0,.slice none 0 0] 124 (0,0))):=⟨gV⟩
 have mO:=yY HB;have bY:=cW br;have ai:=dg;replace HB:=mB HB ai;replace bg:=mX bg ai;replace br:=mX br ai;replace bL:=mR bL ai;replace bI:=mR bI ai;replace aZ:=mX aZ ai;clear ai;clear gV dg;generalize w4.heap.size=gf at bS mO bY|-
 have H:=HF.out;clear HF;unfold EM at H
 obtain ⟨⟨us,ud,uc,ub,e2⟩,hp,H⟩:=bR H;dsimp only at H
 obtain ⟨rt,hr,H⟩:=bR H;have HG:=aa.mk H;clear H;have HQ:=aa.mk hp;have HW:=aa.mk hr;clear hp hr;have oL:=cz aZ.out 2 rfl;have yl:=cz aZ.out 9 rfl
 go_wp2_with fail
 clear oL yl;refine (nZ.calls Ab cb b us ud uc ub e2 _ (Kd.ay bI.out).2.2 (Kd.ay bI.out).2.1 HQ.out).mono ?_;rintro ev w6 ⟨vub,rfl,hub,hb⟩;have iu:=lO hub HB;obtain ⟨Aub,cub,rfl,_,_⟩:=Kd.cj hub;clear hub;have ai:=hb;replace HB:=mB HB ai;replace bg:=mX bg ai;replace br:=mX br ai;replace bL:=mR bL ai;replace bI:=mR bI ai;replace aZ:=mX aZ ai;replace bS:=mX bS ai;clear ai;clear hb
 (try dsimp only)
 go_upto_region 10 with (((refine fc rfl rfl rfl rfl rfl yj.out rfl (by simp [Value.oneCell']) ?_);intro fU gV dg))
 revert fU gV dg;intro w7 gV dg;have cM:aa (w7.heap[w6.heap.size]?=some (.cells #[.int .u16 us,.int .u16 ud,.int .u16 uc,.slice Aub ub.length cub] 83 (0,0))):=⟨gV⟩
 have sW:=yY HB;have ai:=dg;replace HB:=mB HB ai;replace bg:=mX bg ai;replace br:=mX br ai;replace bL:=mR bL ai;replace bI:=mR bI ai;replace aZ:=mX aZ ai;replace bS:=mX bS ai;replace iu:=mR iu ai;clear ai;clear gV dg;generalize w6.heap.size=gu at cM sW|-
 have uG:=cz aZ.out 6 rfl;have vM:=cz aZ.out 7 rfl
 go_wp2_with (refine Kd.bU rfl (bM rfl rfl cM.out Try.underlying83 rfl yj.out) ?_)
 clear uG vM;refine (jY.calls k s d us ud uc Aub cub ub rt _ (Kd.ay iu.out).2.2 (Kd.ay iu.out).2.1 HW.out).mono ?_;rintro ev w8 ⟨rfl,hb⟩;have ai:=hb;replace HB:=mB HB ai;replace bg:=mX bg ai;replace br:=mX br ai;replace bL:=mR bL ai;replace bI:=mR bI ai;replace aZ:=mX aZ ai;replace bS:=mX bS ai;replace iu:=mR iu ai;replace cM:=mX cM ai;clear ai;clear hb HQ HW
 (try dsimp only)
 go_upto_region 11 with (fail)
 refine dB (n:=10) (S:=fun w'=>w'.cell? ⟨gu,0,none⟩=some (.int .u16 us) /\ w'.cell? ⟨gu,1,none⟩=some (.int .u16 ud)) (ds:=[]) #[false,false,false,false,false,false,false,false,false,false] (by kernel_rfl) rfl rfl ⟨((aN cM.out 0).trans rfl),((aN cM.out 1).trans rfl)⟩ (fun hHeld=> ?_);refine bF rlk.R11.tab rlk.R11.bits (fun ax eu=> ?_);have ai:=bf (Below.refl w8.heap.size w8);replace HB:=mB HB ai;replace bg:=mX bg ai;replace br:=mX br ai;replace bL:=mR bL ai;replace bI:=mR bI ai;replace aZ:=mX aZ ai;replace bS:=mX bS ai;replace iu:=mR iu ai;replace cM:=mX cM ai;clear ai;generalize w8.drew=w9 at HB bg br bL bI aZ bS iu cM hHeld|-
 refine pz 0 58 ax ?_;refine pz 2 60 ax ?_;refine tz 1 59 ax eu hHeld ?_;refine pz 4 62 ax ?_;refine pz 5 63 ax ?_;refine tz 3 61 ax eu hHeld ?_;refine oz 6 (none) ax (fun K hK=> ?_);refine iy (i:=2) (v:= .int .u16 us) (cs':= #[.int .u8 17,.int .u32 s,.int .u16 us,.int .u32 d,.int .u16 0,.int .u8 0,.slice none 0 0]) (by rfl) (by rfl) bS.out rfl (by (have m_:=(aN bS.out 2).trans (rfl:_=some (.int .u16 0:Value)));(have pU:=ae bS.out 2);first|(go_simp;done)|(go_simp;rfl)) ?_;intro ku hs_ ag;replace bg:=oX ag bg bS (by decide);replace br:=oN ag br bY;replace bL:=oR ag bL bS (by decide);replace bI:=oR ag bI bS (by decide);replace aZ:=oX ag aZ bS (by decide);replace iu:=oR ag iu bS (by decide);replace cM:=oX ag cM bS (by decide)
 replace HB:=oB ag HB mO;clear ag;replace bS:=aa.mk hs_;clear hs_;refine hK.out _ _ ⟨((aN cM.out 0).trans rfl),((aN cM.out 1).trans rfl)⟩ (fun hHeld=> ?_);clear hK K;refine pz 7 64 ax ?_;refine pz 8 65 ax ?_;refine oz 9 (none) ax (fun K hK=> ?_);refine iy (i:=4) (v:= .int .u16 ud) (cs':= #[.int .u8 17,.int .u32 s,.int .u16 us,.int .u32 d,.int .u16 ud,.int .u8 0,.slice none 0 0]) (by rfl) (by rfl) bS.out rfl (by (have m_:=(aN bS.out 4).trans (rfl:_=some (.int .u16 0:Value)));(have pU:=ae bS.out 4);first|(go_simp;done)|(go_simp;rfl)) ?_;intro sn hs_ ag;replace bg:=oX ag bg bS (by decide);replace br:=oN ag br bY;replace bL:=oR ag bL bS (by decide);replace bI:=oR ag bI bS (by decide);replace aZ:=oX ag aZ bS (by decide)
 replace iu:=oR ag iu bS (by decide);replace cM:=oX ag cM bS (by decide);replace HB:=oB ag HB mO;clear ag;replace bS:=aa.mk hs_;clear hs_;refine hK.out _ _ ⟨((aN cM.out 0).trans rfl),((aN cM.out 1).trans rfl)⟩ (fun hHeld=> ?_);clear hK K;refine dz ax ?_;clear ax eu hHeld;have H:=HG.out;clear HG
 by_cases ce:e2=0
 rotate_left
 ·have Ad:(e2==0)=false:=fq ce
  have G1:(e2 !=0)=true:=bne_iff_ne.2 ce;rw [av ce] at H
  clear ce;obtain rfl:=cN H
  (try dsimp only)
  go_wp2_with (first|((refine dh rfl rfl rfl rfl rfl bg.out eN.out rfl (by simp [Value.oneCell']) ?_);intro nP hs_ ag;replace br:=oX ag br bg (by decide);replace bL:=oR ag bL bg (by decide);replace bI:=oR ag bI bg (by decide);replace aZ:=oN ag aZ (cg cu);replace bS:=oX ag bS bg (by decide);replace iu:=oR ag iu bg (by decide);replace cM:=oX ag cM bg (by decide);replace HB:=oB ag HB kM;clear ag;replace bg:=aa.mk hs_;clear hs_)|((refine dh rfl rfl rfl rfl rfl br.out iS.out rfl (by simp [Value.oneCell']) ?_);intro yD hs_ ag;replace bg:=oX ag bg br (by decide);replace bL:=oR ag bL br (by decide);replace bI:=oR ag bI br (by decide);replace aZ:=oX ag aZ br (by decide);replace bS:=oN ag bS (cg bY);replace iu:=oR ag iu br (by decide);replace cM:=oX ag cM br (by decide);replace HB:=oB ag HB mN;clear ag;replace br:=aa.mk hs_;clear hs_))
  (try simp only [Exit.inBlock,Exit.then])
  refine bodyPost_ret (iq rfl _ _ _ _ _ _ _ _ (0,0) (0,0) _ _ rfl bg.out iW rfl eN.out rfl br.out nO rfl iS.out) rfl ?_;exact ⟨_,_,_,rfl,Kd.bX _ _ _ _ _,Kd.bX _ _ _ _ _,Kd.bX _ _ _ _ _,HB.out⟩
 have Ad:(e2==0)=true:=fF ce
 have G1:(e2 !=0)=false:=by rw [bne,Ad];rfl
 rw [aq ce] at H
 clear ce
 cases rt with
 |false=>
  rw [av (by decide)] at H
  obtain rfl:=cN H
  (try dsimp only)
  go_wp2_with (first|((refine dh rfl rfl rfl rfl rfl bg.out eN.out rfl (by simp [Value.oneCell']) ?_);intro nP hs_ ag;replace br:=oX ag br bg (by decide);replace bL:=oR ag bL bg (by decide);replace bI:=oR ag bI bg (by decide);replace aZ:=oN ag aZ (cg cu);replace bS:=oX ag bS bg (by decide);replace iu:=oR ag iu bg (by decide);replace cM:=oX ag cM bg (by decide);replace HB:=oB ag HB kM;clear ag;replace bg:=aa.mk hs_;clear hs_)|((refine dh rfl rfl rfl rfl rfl br.out iS.out rfl (by simp [Value.oneCell']) ?_);intro yD hs_ ag;replace bg:=oX ag bg br (by decide);replace bL:=oR ag bL br (by decide);replace bI:=oR ag bI br (by decide);replace aZ:=oX ag aZ br (by decide);replace bS:=oN ag bS (cg bY);replace iu:=oR ag iu br (by decide);replace cM:=oX ag cM br (by decide);replace HB:=oB ag HB mN;clear ag;replace br:=aa.mk hs_;clear hs_))
  (try simp only [Exit.inBlock,Exit.then])
  refine bodyPost_ret (iq rfl _ _ _ _ _ _ _ _ (0,0) (0,0) _ _ rfl bg.out iW rfl eN.out rfl br.out nO rfl iS.out) rfl ?_;exact ⟨_,_,_,rfl,Kd.bX _ _ _ _ _,Kd.bX _ _ _ _ _,Kd.bX _ _ _ _ _,HB.out⟩
 |true=>
  rw [aq rfl] at H
  obtain rfl:=cN H
  (try dsimp only)
  go_upto_region 32 with (fail)
  refine dB (n:=5) (S:=fun w'=>w'.heap[gp]?=some (.cells #[.int .u8 a,.int .u8 t,.int .u8 17,.int .u16 i,.int .u8 fl,.int .u16 cr,.int .u32 s,.int .u32 d,.slice Ao o.length co,.slice Ab b.length cb] 73 (0,0)) /\ w'.heap[gf]?=some (.cells #[.int .u8 17,.int .u32 s,.int .u16 us,.int .u32 d,.int .u16 ud,.int .u8 0,.slice none 0 0] 124 (0,0))) (ds:=[]) #[false,false,false,false,false] (by kernel_rfl) rfl rfl ⟨aZ.out,bS.out⟩ (fun hHeld=> ?_);refine bF rlk.Qz.tab rlk.Qz.bits (fun ax eu=> ?_);have ai:=bf (Below.refl sn.heap.size sn);replace HB:=mB HB ai;replace bg:=mX bg ai;replace br:=mX br ai;replace bL:=mR bL ai;replace bI:=mR bI ai;replace aZ:=mX aZ ai;replace bS:=mX bS ai;replace iu:=mR iu ai;replace cM:=mX cM ai;clear ai
  generalize sn.drew=nP at HB bg br bL bI aZ bS iu cM hHeld|-
  refine tv 0 154 (.agg #[.int .u8 a,.int .u8 t,.int .u8 17,.int .u16 i,.int .u8 fl,.int .u16 cr,.int .u32 s,.int .u32 d,.slice Ao o.length co,.slice Ab b.length cb]) ax eu hHeld ?_ ?_
  ·intro w' s0
   obtain ⟨s0,s1⟩:=s0;exact bM (p:= .tmp 5) (ty:=73) (by rfl) (by rfl) s0 iW (by rfl) eN.out
  refine nz 154 ?_;refine tv 1 155 (.agg #[.int .u8 17,.int .u32 s,.int .u16 us,.int .u32 d,.int .u16 ud,.int .u8 0,.slice none 0 0]) ax eu hHeld ?_ ?_
  ·intro w' s0
   obtain ⟨s0,s1⟩:=s0;exact bM (p:= .tmp 7) (ty:=124) (by rfl) (by rfl) s1 nO (by rfl) iS.out
  refine nz 155 ?_;refine oz 2 (none) ax (fun K hK=> ?_);refine cZ (by rfl) (by rfl) rfl rfl rfl bg.out eN.out rfl (by simp [Value.oneCell']) ?_;intro yD hs_ ag;replace br:=oX ag br bg (by decide);replace bL:=oR ag bL bg (by decide);replace bI:=oR ag bI bg (by decide);replace aZ:=oN ag aZ (cg cu);replace bS:=oX ag bS bg (by decide);replace iu:=oR ag iu bg (by decide);replace cM:=oX ag cM bg (by decide);replace HB:=oB ag HB kM;clear ag;replace bg:=aa.mk hs_;clear hs_;refine hK.out _ _ ⟨aZ.out,bS.out⟩ (fun hHeld=> ?_);clear hK K;refine oz 3 (none) ax (fun K hK=> ?_);refine cZ (by rfl) (by rfl) rfl rfl rfl br.out iS.out rfl (by simp [Value.oneCell']) ?_;intro qY hs_ ag;replace bg:=oX ag bg br (by decide);replace bL:=oR ag bL br (by decide)
  replace bI:=oR ag bI br (by decide);replace aZ:=oX ag aZ br (by decide);replace bS:=oN ag bS (cg bY);replace iu:=oR ag iu br (by decide);replace cM:=oX ag cM br (by decide);replace HB:=oB ag HB mN;clear ag;replace br:=aa.mk hs_;clear hs_;refine hK.out _ _ ⟨aZ.out,bS.out⟩ (fun hHeld=> ?_);clear hK K;refine pz 4 4 ax ?_;refine dz ax ?_;clear ax eu hHeld
  (try dsimp only)
  go_wp2
  (try simp only [Exit.inBlock,Exit.then])
  refine bodyPost_ret (iq rfl _ _ _ _ _ _ _ _ (0,0) (0,0) _ _ rfl bg.out iW rfl eN.out rfl br.out nO rfl iS.out) rfl ?_;exact ⟨_,_,_,rfl,bL.out,bI.out,Kd.bX _ _ _ _ _,HB.out⟩
theorem rlk.tcp (k:Nat) (A:Option Addr) (c:Nat) (l:List Int) (a t i fl cr s d:Int) (o b:List Int) (r:LK) (w:World) (hC:Kd.C (Kd.int .u8) w A l.length l) (hL:l.length<=c) (hP:bC.f k l=some (a,t,6,i,fl,cr,s,d,o,b,0)) (h:EN k a t i fl cr s d o b=some r):
  Calls Try.prog 66 #[.slice A l.length c] w fun e w'=>r.Told w.heap.size w e w':=by
 have mM:=Try.underlying65;have iW:=Try.underlying73;have nO:=Try.underlying124;have uC:=Try.underlying137;have HB:=gI w;have HC:=aa.mk hC;have HL:=aa.mk hL;have HP:=aa.mk hP;have HF:=aa.mk h;have iM:aa ((Try.prog.info? 65).map (·.size)=some 2):=⟨by kernel_rfl⟩
 have eN:aa ((Try.prog.info? 73).map (·.size)=some 10):=⟨by kernel_rfl⟩
 have iS:aa ((Try.prog.info? 124).map (·.size)=some 7):=⟨by kernel_rfl⟩
 have mz:aa ((Try.prog.info? 137).map (·.size)=some 10):=⟨by kernel_rfl⟩
 clear hC hL hP h
 go_enter Try.func66,Try.ntmps66
 go_upto_region 1 with (first|((with_reducible refine aA (N:=2) rfl ?_);refine aC ?fT (N:=2) ?iB (cs:=jL) (t:=73) ?eY ?_;(case iB=>rfl);(case fT=>rfl);(case eY=>first|(go_simp;done)|(go_simp;rfl));intro gi bV w1 bw cB;have kM:=aa.mk (show w.heap.size<=gi by rw [bV];exact af HB.out);have bg:=aa.mk bw;have ai:=cB;replace HB:=mB HB ai;clear ai;clear bV bw cB)|((with_reducible refine aA (N:=3) rfl ?_);refine aC ?fT (N:=3) ?iB (cs:=lN) (t:=124) ?eY ?_;(case iB=>rfl);(case fT=>rfl);(case eY=>first|(go_simp;done)|(go_simp;rfl));intro gq bV w2 bw cB;have mN:=aa.mk (show w.heap.size<=gq by rw [bV];exact af HB.out);have br:=aa.mk bw;have ai:=cB;replace HB:=mB HB ai;replace bg:=mX bg ai;clear ai;clear bV bw cB))
 go_wp2_with fail
 refine (bC.calls k A c l a t 6 i fl cr s d o b 0 _ (Kd.aW HC.out HB.out) HL.out HP.out).mono ?_;rintro ev w3 ⟨vo,vb,rfl,ho,qd,hb⟩;have bL:=lO ho HB;obtain ⟨Ao,co,rfl,_,_⟩:=Kd.cj ho;clear ho;have bI:=lO qd HB;obtain ⟨Ab,cb,rfl,_,_⟩:=Kd.cj qd;clear qd;have ai:=hb;replace HB:=mB HB ai;replace bg:=mX bg ai;replace br:=mX br ai;clear ai;clear hb HP HC HL
 (try dsimp only)
 go_upto_region 2 with (((refine fc rfl rfl rfl rfl rfl eN.out rfl (by simp [Value.oneCell']) ?_);intro fU gV dg))
 revert fU gV dg;intro w4 gV dg;have aZ:aa (w4.heap[w3.heap.size]?=some (.cells #[.int .u8 a,.int .u8 t,.int .u8 6,.int .u16 i,.int .u8 fl,.int .u16 cr,.int .u32 s,.int .u32 d,.slice Ao o.length co,.slice Ab b.length cb] 73 (0,0))):=⟨gV⟩
 have lV:=yY HB;have cu:=cW bg;have ai:=dg;replace HB:=mB HB ai;replace bg:=mX bg ai;replace br:=mX br ai;replace bL:=mR bL ai;replace bI:=mR bI ai;clear ai;clear gV dg;generalize w3.heap.size=gp at aZ lV cu|-
 have oL:=cz aZ.out 2 rfl;have uG:=cz aZ.out 6 rfl;have vM:=cz aZ.out 7 rfl
 go_upto_region 5 with (((refine fc rfl rfl rfl rfl rfl iS.out rfl (by simp [Value.oneCell']) ?_);intro fU gV dg))
 clear oL uG vM;revert fU gV dg;intro w5 gV dg;have bS:aa (w5.heap[w4.heap.size]?=some (.cells #[.int .u8 6,.int .u32 s,.int .u16 0,.int .u32 d,.int .u16 0,.int .u8 0,.slice none 0 0] 124 (0,0))):=⟨gV⟩
 have mO:=yY HB;have bY:=cW br;have ai:=dg;replace HB:=mB HB ai;replace bg:=mX bg ai;replace br:=mX br ai;replace bL:=mR bL ai;replace bI:=mR bI ai;replace aZ:=mX aZ ai;clear ai;clear gV dg;generalize w4.heap.size=gf at bS mO bY|-
 have H:=HF.out;clear HF;unfold EN at H
 obtain ⟨⟨ts,td,tq,ta,tf,tw,tc,tu,tJ,tb,e2⟩,hp,H⟩:=bR H;dsimp only at H
 obtain ⟨rt,hr,H⟩:=bR H;have HG:=aa.mk H;clear H;have HQ:=aa.mk hp;have HW:=aa.mk hr;clear hp hr;have oL:=cz aZ.out 2 rfl;have yl:=cz aZ.out 9 rfl
 go_wp2_with fail
 clear oL yl;refine (gT.calls Ab cb b ts td tq ta tf tw tc tu tJ tb e2 _ (Kd.ay bI.out).2.2 (Kd.ay bI.out).2.1 HQ.out).mono ?_;rintro ev w6 ⟨Apn,vtb,rfl,L9,htb,hb⟩;have eZ:=lO L9 HB;obtain ⟨Ps,Pt,rfl,_,_⟩:=Kd.cj L9;clear L9;have ic:=lO htb HB;obtain ⟨Atb,ctb,rfl,_,_⟩:=Kd.cj htb;clear htb;have ai:=hb;replace HB:=mB HB ai;replace bg:=mX bg ai;replace br:=mX br ai;replace bL:=mR bL ai;replace bI:=mR bI ai;replace aZ:=mX aZ ai;replace bS:=mX bS ai;clear ai;clear hb
 (try dsimp only)
 go_upto_region 14 with (((refine fc rfl rfl rfl rfl rfl mz.out rfl (by simp [Value.oneCell']) ?_);intro fU gV dg))
 revert fU gV dg;intro w7 gV dg;have cM:aa (w7.heap[w6.heap.size]?=some (.cells #[.int .u16 ts,.int .u16 td,.int .u32 tq,.int .u32 ta,.int .u8 tf,.int .u16 tw,.int .u16 tc,.int .u16 tu,.slice Ps tJ.length Pt,.slice Atb tb.length ctb] 137 (0,0))):=⟨gV⟩
 have sW:=yY HB;have ai:=dg;replace HB:=mB HB ai;replace bg:=mX bg ai;replace br:=mX br ai;replace bL:=mR bL ai;replace bI:=mR bI ai;replace aZ:=mX aZ ai;replace bS:=mX bS ai;replace eZ:=mR eZ ai;replace ic:=mR ic ai;clear ai;clear gV dg;generalize w6.heap.size=gu at cM sW|-
 have uG:=cz aZ.out 6 rfl;have vM:=cz aZ.out 7 rfl
 go_wp2_with (refine Kd.bU rfl (bM rfl rfl cM.out Try.underlying137 rfl mz.out) ?_)
 clear uG vM;refine (jX.calls k s d ts td tq ta tf tw tc tu Ps Pt tJ Atb ctb tb rt _ (Kd.ay eZ.out).2.2 (Kd.ay eZ.out).2.1 (Kd.ay ic.out).2.2 (Kd.ay ic.out).2.1 HW.out).mono ?_;rintro ev w8 ⟨rfl,hb⟩;have ai:=hb;replace HB:=mB HB ai;replace bg:=mX bg ai;replace br:=mX br ai;replace bL:=mR bL ai;replace bI:=mR bI ai;replace aZ:=mX aZ ai;replace bS:=mX bS ai;replace eZ:=mR eZ ai;replace ic:=mR ic ai;replace cM:=mX cM ai;clear ai;clear hb HQ HW
 (try dsimp only)
 go_upto_region 15 with (fail)
 refine dB (n:=14) (S:=fun w'=>w'.cell? ⟨gu,0,none⟩=some (.int .u16 ts) /\ w'.cell? ⟨gu,1,none⟩=some (.int .u16 td) /\ w'.cell? ⟨gu,4,none⟩=some (.int .u8 tf)) (ds:=[]) #[false,false,false,false,false,false,false,false,false,false,false,false,false,false] (by kernel_rfl) rfl rfl ⟨((aN cM.out 0).trans rfl),((aN cM.out 1).trans rfl),((aN cM.out 4).trans rfl)⟩ (fun hHeld=> ?_);refine bF rlk.R15.tab rlk.R15.bits (fun ax eu=> ?_);have ai:=bf (Below.refl w8.heap.size w8);replace HB:=mB HB ai;replace bg:=mX bg ai;replace br:=mX br ai;replace bL:=mR bL ai;replace bI:=mR bI ai;replace aZ:=mX aZ ai;replace bS:=mX bS ai;replace eZ:=mR eZ ai;replace ic:=mR ic ai;replace cM:=mX cM ai;clear ai
 generalize w8.drew=w9 at HB bg br bL bI aZ bS eZ ic cM hHeld|-
 refine pz 0 81 ax ?_;refine pz 2 83 ax ?_;refine pz 4 85 ax ?_;refine tz 1 82 ax eu hHeld ?_;refine pz 6 87 ax ?_;refine pz 7 88 ax ?_;refine tz 3 84 ax eu hHeld ?_;refine tz 5 86 ax eu hHeld ?_;refine oz 8 (none) ax (fun K hK=> ?_);refine iy (i:=2) (v:= .int .u16 ts) (cs':= #[.int .u8 6,.int .u32 s,.int .u16 ts,.int .u32 d,.int .u16 0,.int .u8 0,.slice none 0 0]) (by rfl) (by rfl) bS.out rfl (by (have m_:=(aN bS.out 2).trans (rfl:_=some (.int .u16 0:Value)));(have pU:=ae bS.out 2);first|(go_simp;done)|(go_simp;rfl)) ?_;intro ku hs_ ag;replace bg:=oX ag bg bS (by decide);replace br:=oN ag br bY;replace bL:=oR ag bL bS (by decide);replace bI:=oR ag bI bS (by decide);replace aZ:=oX ag aZ bS (by decide);replace eZ:=oR ag eZ bS (by decide)
 replace ic:=oR ag ic bS (by decide);replace cM:=oX ag cM bS (by decide);replace HB:=oB ag HB mO;clear ag;replace bS:=aa.mk hs_;clear hs_;refine hK.out _ _ ⟨((aN cM.out 0).trans rfl),((aN cM.out 1).trans rfl),((aN cM.out 4).trans rfl)⟩ (fun hHeld=> ?_);clear hK K;refine pz 9 89 ax ?_;refine pz 10 90 ax ?_;refine oz 11 (none) ax (fun K hK=> ?_);refine iy (i:=4) (v:= .int .u16 td) (cs':= #[.int .u8 6,.int .u32 s,.int .u16 ts,.int .u32 d,.int .u16 td,.int .u8 0,.slice none 0 0]) (by rfl) (by rfl) bS.out rfl (by (have m_:=(aN bS.out 4).trans (rfl:_=some (.int .u16 0:Value)));(have pU:=ae bS.out 4);first|(go_simp;done)|(go_simp;rfl)) ?_;intro sn hs_ ag;replace bg:=oX ag bg bS (by decide);replace br:=oN ag br bY
 replace bL:=oR ag bL bS (by decide);replace bI:=oR ag bI bS (by decide);replace aZ:=oX ag aZ bS (by decide);replace eZ:=oR ag eZ bS (by decide);replace ic:=oR ag ic bS (by decide);replace cM:=oX ag cM bS (by decide);replace HB:=oB ag HB mO;clear ag;replace bS:=aa.mk hs_;clear hs_;refine hK.out _ _ ⟨((aN cM.out 0).trans rfl),((aN cM.out 1).trans rfl),((aN cM.out 4).trans rfl)⟩ (fun hHeld=> ?_);clear hK K;refine pz 12 91 ax ?_;refine oz 13 (none) ax (fun K hK=> ?_)
 refine iy (i:=5) (v:= .int .u8 tf) (cs':= #[.int .u8 6,.int .u32 s,.int .u16 ts,.int .u32 d,.int .u16 td,.int .u8 tf,.slice none 0 0]) (by rfl) (by rfl) bS.out rfl (by (have m_:=(aN bS.out 5).trans (rfl:_=some (.int .u8 0:Value)));(have pU:=ae bS.out 5);first|(go_simp;done)|(go_simp;rfl)) ?_;intro nP hs_ ag;replace bg:=oX ag bg bS (by decide);replace br:=oN ag br bY;replace bL:=oR ag bL bS (by decide);replace bI:=oR ag bI bS (by decide);replace aZ:=oX ag aZ bS (by decide);replace eZ:=oR ag eZ bS (by decide);replace ic:=oR ag ic bS (by decide);replace cM:=oX ag cM bS (by decide);replace HB:=oB ag HB mO;clear ag;replace bS:=aa.mk hs_;clear hs_
 refine hK.out _ _ ⟨((aN cM.out 0).trans rfl),((aN cM.out 1).trans rfl),((aN cM.out 4).trans rfl)⟩ (fun hHeld=> ?_);clear hK K;refine dz ax ?_;clear ax eu hHeld;have H:=HG.out;clear HG
 by_cases ce:e2=0
 rotate_left
 ·have Ad:(e2==0)=false:=fq ce
  have G1:(e2 !=0)=true:=bne_iff_ne.2 ce;rw [av ce] at H
  clear ce;obtain rfl:=cN H
  (try dsimp only)
  go_wp2_with (first|((refine dh rfl rfl rfl rfl rfl bg.out eN.out rfl (by simp [Value.oneCell']) ?_);intro yD hs_ ag;replace br:=oX ag br bg (by decide);replace bL:=oR ag bL bg (by decide);replace bI:=oR ag bI bg (by decide);replace aZ:=oN ag aZ (cg cu);replace bS:=oX ag bS bg (by decide);replace eZ:=oR ag eZ bg (by decide);replace ic:=oR ag ic bg (by decide);replace cM:=oX ag cM bg (by decide);replace HB:=oB ag HB kM;clear ag;replace bg:=aa.mk hs_;clear hs_)|((refine dh rfl rfl rfl rfl rfl br.out iS.out rfl (by simp [Value.oneCell']) ?_);intro qY hs_ ag;replace bg:=oX ag bg br (by decide);replace bL:=oR ag bL br (by decide);replace bI:=oR ag bI br (by decide);replace aZ:=oX ag aZ br (by decide);replace bS:=oN ag bS (cg bY);replace eZ:=oR ag eZ br (by decide);replace ic:=oR ag ic br (by decide);replace cM:=oX ag cM br (by decide);replace HB:=oB ag HB mN;clear ag;replace br:=aa.mk hs_;clear hs_))
  (try simp only [Exit.inBlock,Exit.then])
  refine bodyPost_ret (iq rfl _ _ _ _ _ _ _ _ (0,0) (0,0) _ _ rfl bg.out iW rfl eN.out rfl br.out nO rfl iS.out) rfl ?_;exact ⟨_,_,_,rfl,Kd.bX _ _ _ _ _,Kd.bX _ _ _ _ _,Kd.bX _ _ _ _ _,HB.out⟩
 have Ad:(e2==0)=true:=fF ce
 have G1:(e2 !=0)=false:=by rw [bne,Ad];rfl
 rw [aq ce] at H
 clear ce
 cases rt with
 |false=>
  rw [av (by decide)] at H
  obtain rfl:=cN H
  (try dsimp only)
  go_wp2_with (first|((refine dh rfl rfl rfl rfl rfl bg.out eN.out rfl (by simp [Value.oneCell']) ?_);intro yD hs_ ag;replace br:=oX ag br bg (by decide);replace bL:=oR ag bL bg (by decide);replace bI:=oR ag bI bg (by decide);replace aZ:=oN ag aZ (cg cu);replace bS:=oX ag bS bg (by decide);replace eZ:=oR ag eZ bg (by decide);replace ic:=oR ag ic bg (by decide);replace cM:=oX ag cM bg (by decide);replace HB:=oB ag HB kM;clear ag;replace bg:=aa.mk hs_;clear hs_)|((refine dh rfl rfl rfl rfl rfl br.out iS.out rfl (by simp [Value.oneCell']) ?_);intro qY hs_ ag;replace bg:=oX ag bg br (by decide);replace bL:=oR ag bL br (by decide);replace bI:=oR ag bI br (by decide);replace aZ:=oX ag aZ br (by decide);replace bS:=oN ag bS (cg bY);replace eZ:=oR ag eZ br (by decide);replace ic:=oR ag ic br (by decide);replace cM:=oX ag cM br (by decide);replace HB:=oB ag HB mN;clear ag;replace br:=aa.mk hs_;clear hs_))
  (try simp only [Exit.inBlock,Exit.then])
  refine bodyPost_ret (iq rfl _ _ _ _ _ _ _ _ (0,0) (0,0) _ _ rfl bg.out iW rfl eN.out rfl br.out nO rfl iS.out) rfl ?_;exact ⟨_,_,_,rfl,Kd.bX _ _ _ _ _,Kd.bX _ _ _ _ _,Kd.bX _ _ _ _ _,HB.out⟩
 |true=>
  rw [aq rfl] at H
  obtain rfl:=cN H
  (try dsimp only)
  go_upto_region 32 with (fail)
  refine dB (n:=5) (S:=fun w'=>w'.heap[gp]?=some (.cells #[.int .u8 a,.int .u8 t,.int .u8 6,.int .u16 i,.int .u8 fl,.int .u16 cr,.int .u32 s,.int .u32 d,.slice Ao o.length co,.slice Ab b.length cb] 73 (0,0)) /\ w'.heap[gf]?=some (.cells #[.int .u8 6,.int .u32 s,.int .u16 ts,.int .u32 d,.int .u16 td,.int .u8 tf,.slice none 0 0] 124 (0,0))) (ds:=[]) #[false,false,false,false,false] (by kernel_rfl) rfl rfl ⟨aZ.out,bS.out⟩ (fun hHeld=> ?_);refine bF rlk.Qz.tab rlk.Qz.bits (fun ax eu=> ?_);have ai:=bf (Below.refl nP.heap.size nP);replace HB:=mB HB ai;replace bg:=mX bg ai;replace br:=mX br ai;replace bL:=mR bL ai;replace bI:=mR bI ai;replace aZ:=mX aZ ai;replace bS:=mX bS ai;replace eZ:=mR eZ ai;replace ic:=mR ic ai;replace cM:=mX cM ai;clear ai
  generalize nP.drew=yD at HB bg br bL bI aZ bS eZ ic cM hHeld|-
  refine tv 0 154 (.agg #[.int .u8 a,.int .u8 t,.int .u8 6,.int .u16 i,.int .u8 fl,.int .u16 cr,.int .u32 s,.int .u32 d,.slice Ao o.length co,.slice Ab b.length cb]) ax eu hHeld ?_ ?_
  ·intro w' s0
   obtain ⟨s0,s1⟩:=s0;exact bM (p:= .tmp 5) (ty:=73) (by rfl) (by rfl) s0 iW (by rfl) eN.out
  refine nz 154 ?_;refine tv 1 155 (.agg #[.int .u8 6,.int .u32 s,.int .u16 ts,.int .u32 d,.int .u16 td,.int .u8 tf,.slice none 0 0]) ax eu hHeld ?_ ?_
  ·intro w' s0
   obtain ⟨s0,s1⟩:=s0;exact bM (p:= .tmp 7) (ty:=124) (by rfl) (by rfl) s1 nO (by rfl) iS.out
  refine nz 155 ?_;refine oz 2 (none) ax (fun K hK=> ?_);refine cZ (by rfl) (by rfl) rfl rfl rfl bg.out eN.out rfl (by simp [Value.oneCell']) ?_;intro qY hs_ ag;replace br:=oX ag br bg (by decide);replace bL:=oR ag bL bg (by decide);replace bI:=oR ag bI bg (by decide);replace aZ:=oN ag aZ (cg cu);replace bS:=oX ag bS bg (by decide);replace eZ:=oR ag eZ bg (by decide);replace ic:=oR ag ic bg (by decide);replace cM:=oX ag cM bg (by decide);replace HB:=oB ag HB kM;clear ag;replace bg:=aa.mk hs_;clear hs_;refine hK.out _ _ ⟨aZ.out,bS.out⟩ (fun hHeld=> ?_);clear hK K;refine oz 3 (none) ax (fun K hK=> ?_);refine cZ (by rfl) (by rfl) rfl rfl rfl br.out iS.out rfl (by simp [Value.oneCell']) ?_;intro BX hs_ ag;replace bg:=oX ag bg br (by decide)
  replace bL:=oR ag bL br (by decide);replace bI:=oR ag bI br (by decide);replace aZ:=oX ag aZ br (by decide);replace bS:=oN ag bS (cg bY);replace eZ:=oR ag eZ br (by decide);replace ic:=oR ag ic br (by decide);replace cM:=oX ag cM br (by decide);replace HB:=oB ag HB mN;clear ag;replace br:=aa.mk hs_;clear hs_;refine hK.out _ _ ⟨aZ.out,bS.out⟩ (fun hHeld=> ?_);clear hK K;refine pz 4 4 ax ?_;refine dz ax ?_;clear ax eu hHeld
  (try dsimp only)
  go_wp2
  (try simp only [Exit.inBlock,Exit.then])
  refine bodyPost_ret (iq rfl _ _ _ _ _ _ _ _ (0,0) (0,0) _ _ rfl bg.out iW rfl eN.out rfl br.out nO rfl iS.out) rfl ?_;exact ⟨_,_,_,rfl,bL.out,bI.out,Kd.bX _ _ _ _ _,HB.out⟩
theorem rlk.zg (k:Nat) (A:Option Addr) (c:Nat) (l:List Int) (a t i fl cr s d:Int) (o b:List Int) (r:LK) (w:World) (hC:Kd.C (Kd.int .u8) w A l.length l) (hL:l.length<=c) (hP:bC.f k l=some (a,t,1,i,fl,cr,s,d,o,b,0)) (h:AH k a t i fl cr s d o b=some r) (hm:∀ mt mc ms mr mb e,ek.f b=some (mt,mc,ms,mr,mb,e) ->gJ mb /\ mb.length<=100000):
  Calls Try.prog 66 #[.slice A l.length c] w fun e w'=>r.Told w.heap.size w e w':=by
 have mM:=Try.underlying65;have iW:=Try.underlying73;have nO:=Try.underlying124;have oA:=Try.underlying101;have HB:=gI w;have HC:=aa.mk hC;have HL:=aa.mk hL;have HP:=aa.mk hP;have HF:=aa.mk h;have HM:=aa.mk hm;have iM:aa ((Try.prog.info? 65).map (·.size)=some 2):=⟨by kernel_rfl⟩
 have eN:aa ((Try.prog.info? 73).map (·.size)=some 10):=⟨by kernel_rfl⟩
 have iS:aa ((Try.prog.info? 124).map (·.size)=some 7):=⟨by kernel_rfl⟩
 have jD:aa ((Try.prog.info? 101).map (·.size)=some 5):=⟨by kernel_rfl⟩
 clear hC hL hP h hm
 go_enter Try.func66,Try.ntmps66
 go_upto_region 1 with (first|((with_reducible refine aA (N:=2) rfl ?_);refine aC ?fT (N:=2) ?iB (cs:=jL) (t:=73) ?eY ?_;(case iB=>rfl);(case fT=>rfl);(case eY=>first|(go_simp;done)|(go_simp;rfl));intro gi bV w1 bw cB;have kM:=aa.mk (show w.heap.size<=gi by rw [bV];exact af HB.out);have bg:=aa.mk bw;have ai:=cB;replace HB:=mB HB ai;clear ai;clear bV bw cB)|((with_reducible refine aA (N:=3) rfl ?_);refine aC ?fT (N:=3) ?iB (cs:=lN) (t:=124) ?eY ?_;(case iB=>rfl);(case fT=>rfl);(case eY=>first|(go_simp;done)|(go_simp;rfl));intro gq bV w2 bw cB;have mN:=aa.mk (show w.heap.size<=gq by rw [bV];exact af HB.out);have br:=aa.mk bw;have ai:=cB;replace HB:=mB HB ai;replace bg:=mX bg ai;clear ai;clear bV bw cB))
 go_wp2_with fail
 refine (bC.calls k A c l a t 1 i fl cr s d o b 0 _ (Kd.aW HC.out HB.out) HL.out HP.out).mono ?_;rintro ev w3 ⟨vo,vb,rfl,ho,qd,hb⟩;have bL:=lO ho HB;obtain ⟨Ao,co,rfl,_,_⟩:=Kd.cj ho;clear ho;have bI:=lO qd HB;obtain ⟨Ab,cb,rfl,_,_⟩:=Kd.cj qd;clear qd;have ai:=hb;replace HB:=mB HB ai;replace bg:=mX bg ai;replace br:=mX br ai;clear ai;clear hb HP HC HL
 (try dsimp only)
 go_upto_region 2 with (((refine fc rfl rfl rfl rfl rfl eN.out rfl (by simp [Value.oneCell']) ?_);intro fU gV dg))
 revert fU gV dg;intro w4 gV dg;have aZ:aa (w4.heap[w3.heap.size]?=some (.cells #[.int .u8 a,.int .u8 t,.int .u8 1,.int .u16 i,.int .u8 fl,.int .u16 cr,.int .u32 s,.int .u32 d,.slice Ao o.length co,.slice Ab b.length cb] 73 (0,0))):=⟨gV⟩
 have lV:=yY HB;have cu:=cW bg;have ai:=dg;replace HB:=mB HB ai;replace bg:=mX bg ai;replace br:=mX br ai;replace bL:=mR bL ai;replace bI:=mR bI ai;clear ai;clear gV dg;generalize w3.heap.size=gp at aZ lV cu|-
 have oL:=cz aZ.out 2 rfl;have uG:=cz aZ.out 6 rfl;have vM:=cz aZ.out 7 rfl
 go_upto_region 5 with (((refine fc rfl rfl rfl rfl rfl iS.out rfl (by simp [Value.oneCell']) ?_);intro fU gV dg))
 clear oL uG vM;revert fU gV dg;intro w5 gV dg;have bS:aa (w5.heap[w4.heap.size]?=some (.cells #[.int .u8 1,.int .u32 s,.int .u16 0,.int .u32 d,.int .u16 0,.int .u8 0,.slice none 0 0] 124 (0,0))):=⟨gV⟩
 have mO:=yY HB;have bY:=cW br;have ai:=dg;replace HB:=mB HB ai;replace bg:=mX bg ai;replace br:=mX br ai;replace bL:=mR bL ai;replace bI:=mR bI ai;replace aZ:=mX aZ ai;clear ai;clear gV dg;generalize w4.heap.size=gf at bS mO bY|-
 have H:=HF.out;clear HF;unfold AH at H
 obtain ⟨⟨mt,mc,ms,mr,mb,e2⟩,hp,H⟩:=bR H;dsimp only at H
 obtain ⟨rt,hr,H⟩:=bR H;have HG:=aa.mk H;clear H;have HQ:=aa.mk hp;have HW:=aa.mk hr;clear hp hr;have oL:=cz aZ.out 2 rfl;have yl:=cz aZ.out 9 rfl
 go_wp2_with fail
 clear oL yl;refine (ek.calls Ab cb b mt mc ms mr mb e2 _ (Kd.ay bI.out).2.2 (Kd.ay bI.out).2.1 HQ.out).mono ?_;rintro ev w6 ⟨vmb,rfl,hmb,hb⟩;have cG:=lO hmb HB;obtain ⟨DR,DS,rfl,_,_⟩:=Kd.cj hmb;clear hmb;have ai:=hb;replace HB:=mB HB ai;replace bg:=mX bg ai;replace br:=mX br ai;replace bL:=mR bL ai;replace bI:=mR bI ai;replace aZ:=mX aZ ai;replace bS:=mX bS ai;clear ai;clear hb
 (try dsimp only)
 go_upto_region 18 with (((refine fc rfl rfl rfl rfl rfl jD.out rfl (by simp [Value.oneCell']) ?_);intro fU gV dg))
 revert fU gV dg;intro w7 gV dg;have cM:aa (w7.heap[w6.heap.size]?=some (.cells #[.int .u8 mt,.int .u8 mc,.int .u16 ms,.int .u32 mr,.slice DR mb.length DS] 101 (0,0))):=⟨gV⟩
 have sW:=yY HB;have ai:=dg;replace HB:=mB HB ai;replace bg:=mX bg ai;replace br:=mX br ai;replace bL:=mR bL ai;replace bI:=mR bI ai;replace aZ:=mX aZ ai;replace bS:=mX bS ai;replace cG:=mR cG ai;clear ai;clear gV dg;generalize w6.heap.size=gu at cM sW|-
 go_wp2_with (refine Kd.bU rfl (bM rfl rfl cM.out Try.underlying101 rfl jD.out) ?_)
 refine (jB.calls k mt mc ms mr DR DS mb rt _ (Kd.ay cG.out).2.2 (Kd.ay cG.out).2.1 HW.out).mono ?_;rintro ev w8 ⟨rfl,hb⟩;have ai:=hb;replace HB:=mB HB ai;replace bg:=mX bg ai;replace br:=mX br ai;replace bL:=mR bL ai;replace bI:=mR bI ai;replace aZ:=mX aZ ai;replace bS:=mX bS ai;replace cG:=mR cG ai;replace cM:=mX cM ai;clear ai;clear hb HW;have H:=HG.out;clear HG
 by_cases ce:e2=0
 rotate_left
 ·have Ad:(e2==0)=false:=fq ce
  have G1:(e2 !=0)=true:=bne_iff_ne.2 ce;rw [av ce] at H
  clear ce;obtain rfl:=cN H
  (try dsimp only)
  go_wp2_with (first|((refine dh rfl rfl rfl rfl rfl bg.out eN.out rfl (by simp [Value.oneCell']) ?_);intro w9 hs_ ag;replace br:=oX ag br bg (by decide);replace bL:=oR ag bL bg (by decide);replace bI:=oR ag bI bg (by decide);replace aZ:=oN ag aZ (cg cu);replace bS:=oX ag bS bg (by decide);replace cG:=oR ag cG bg (by decide);replace cM:=oX ag cM bg (by decide);replace HB:=oB ag HB kM;clear ag;replace bg:=aa.mk hs_;clear hs_)|((refine dh rfl rfl rfl rfl rfl br.out iS.out rfl (by simp [Value.oneCell']) ?_);intro ku hs_ ag;replace bg:=oX ag bg br (by decide);replace bL:=oR ag bL br (by decide);replace bI:=oR ag bI br (by decide);replace aZ:=oX ag aZ br (by decide);replace bS:=oN ag bS (cg bY);replace cG:=oR ag cG br (by decide);replace cM:=oX ag cM br (by decide);replace HB:=oB ag HB mN;clear ag;replace br:=aa.mk hs_;clear hs_))
  (try simp only [Exit.inBlock,Exit.then])
  refine bodyPost_ret (iq rfl _ _ _ _ _ _ _ _ (0,0) (0,0) _ _ rfl bg.out iW rfl eN.out rfl br.out nO rfl iS.out) rfl ?_;exact ⟨_,_,_,rfl,Kd.bX _ _ _ _ _,Kd.bX _ _ _ _ _,Kd.bX _ _ _ _ _,HB.out⟩
 have Ad:(e2==0)=true:=fF ce
 have G1:(e2 !=0)=false:=by rw [bne,Ad];rfl
 rw [aq ce] at H
 clear ce
 cases rt with
 |false=>
  rw [av (by decide)] at H
  obtain rfl:=cN H
  (try dsimp only)
  go_wp2_with (first|((refine dh rfl rfl rfl rfl rfl bg.out eN.out rfl (by simp [Value.oneCell']) ?_);intro w9 hs_ ag;replace br:=oX ag br bg (by decide);replace bL:=oR ag bL bg (by decide);replace bI:=oR ag bI bg (by decide);replace aZ:=oN ag aZ (cg cu);replace bS:=oX ag bS bg (by decide);replace cG:=oR ag cG bg (by decide);replace cM:=oX ag cM bg (by decide);replace HB:=oB ag HB kM;clear ag;replace bg:=aa.mk hs_;clear hs_)|((refine dh rfl rfl rfl rfl rfl br.out iS.out rfl (by simp [Value.oneCell']) ?_);intro ku hs_ ag;replace bg:=oX ag bg br (by decide);replace bL:=oR ag bL br (by decide);replace bI:=oR ag bI br (by decide);replace aZ:=oX ag aZ br (by decide);replace bS:=oN ag bS (cg bY);replace cG:=oR ag cG br (by decide);replace cM:=oX ag cM br (by decide);replace HB:=oB ag HB mN;clear ag;replace br:=aa.mk hs_;clear hs_))
  (try simp only [Exit.inBlock,Exit.then])
  refine bodyPost_ret (iq rfl _ _ _ _ _ _ _ _ (0,0) (0,0) _ _ rfl bg.out iW rfl eN.out rfl br.out nO rfl iS.out) rfl ?_;exact ⟨_,_,_,rfl,Kd.bX _ _ _ _ _,Kd.bX _ _ _ _ _,Kd.bX _ _ _ _ _,HB.out⟩
 |true=>
  rw [aq rfl] at H
  obtain ⟨ec,Y5,H⟩:=bR H;have HG:=aa.mk H;clear H;have HE:=aa.mk Y5;clear Y5
  (try dsimp only)
  go_wp2_with (refine Kd.bU rfl (bM rfl rfl cM.out Try.underlying101 rfl jD.out) ?_)
  refine (m9.calls mt mc ms mr DR DS mb ec _ (Kd.ay cG.out).2.2 (Kd.ay cG.out).2.1 HE.out).mono ?_;rintro ev w9 ⟨rfl,hb⟩;have ai:=hb;replace HB:=mB HB ai;replace bg:=mX bg ai;replace br:=mX br ai;replace bL:=mR bL ai;replace bI:=mR bI ai;replace aZ:=mX aZ ai;replace bS:=mX bS ai;replace cG:=mR cG ai;replace cM:=mX cM ai;clear ai;clear hb HE;have H:=HG.out;clear HG
  cases ec with
  |false=>
   rw [av (by decide)] at H
   obtain ⟨er,her,H⟩:=bR H;have HG:=aa.mk H;clear H;have HE:=aa.mk her;clear her
   (try dsimp only)
   go_wp2_with (refine Kd.bU rfl (bM rfl rfl cM.out Try.underlying101 rfl jD.out) ?_)
   refine (mm.calls mt mc ms mr DR DS mb er _ (Kd.ay cG.out).2.2 (Kd.ay cG.out).2.1 HE.out).mono ?_;rintro ev ku ⟨rfl,hb⟩;have ai:=hb;replace HB:=mB HB ai;replace bg:=mX bg ai;replace br:=mX br ai;replace bL:=mR bL ai;replace bI:=mR bI ai;replace aZ:=mX aZ ai;replace bS:=mX bS ai;replace cG:=mR cG ai;replace cM:=mX cM ai;clear ai;clear hb HE;have H:=HG.out;clear HG
   cases er with
   |false=>
    rw [av (by decide)] at H
    obtain rfl:=cN H
    (try dsimp only)
    go_wp2_with (first|((refine dh rfl rfl rfl rfl rfl bg.out eN.out rfl (by simp [Value.oneCell']) ?_);intro sn hs_ ag;replace br:=oX ag br bg (by decide);replace bL:=oR ag bL bg (by decide);replace bI:=oR ag bI bg (by decide);replace aZ:=oN ag aZ (cg cu);replace bS:=oX ag bS bg (by decide);replace cG:=oR ag cG bg (by decide);replace cM:=oX ag cM bg (by decide);replace HB:=oB ag HB kM;clear ag;replace bg:=aa.mk hs_;clear hs_)|((refine dh rfl rfl rfl rfl rfl br.out iS.out rfl (by simp [Value.oneCell']) ?_);intro nP hs_ ag;replace bg:=oX ag bg br (by decide);replace bL:=oR ag bL br (by decide);replace bI:=oR ag bI br (by decide);replace aZ:=oX ag aZ br (by decide);replace bS:=oN ag bS (cg bY);replace cG:=oR ag cG br (by decide);replace cM:=oX ag cM br (by decide);replace HB:=oB ag HB mN;clear ag;replace br:=aa.mk hs_;clear hs_))
    (try simp only [Exit.inBlock,Exit.then])
    refine bodyPost_ret (iq rfl _ _ _ _ _ _ _ _ (0,0) (0,0) _ _ rfl bg.out iW rfl eN.out rfl br.out nO rfl iS.out) rfl ?_;exact ⟨_,_,_,rfl,Kd.bX _ _ _ _ _,Kd.bX _ _ _ _ _,Kd.bX _ _ _ _ _,HB.out⟩
   |true=>
    rw [aq rfl] at H
    have HG:=aa.mk H;clear H
    (try dsimp only)
    have AdV:=cz cM.out 4 rfl
    go_wp2_with fail
    clear AdV;refine (wu.calls DR DS mb _ (HM.out _ _ _ _ _ _ HQ.out).1 (HM.out _ _ _ _ _ _ HQ.out).2 (Kd.ay cG.out).2.2 (Kd.ay cG.out).2.1).mono ?_;rintro ev sn ⟨rfl,hb⟩;have ai:=hb;replace HB:=mB HB ai;replace bg:=mX bg ai;replace br:=mX br ai;replace bL:=mR bL ai;replace bI:=mR bI ai;replace aZ:=mX aZ ai;replace bS:=mX bS ai;replace cG:=mR cG ai;replace cM:=mX cM ai;clear ai;clear hb;have H:=HG.out;clear HG;generalize nw mb=q_ at H|-
    obtain ⟨⟨qx,qp⟩,⟨qy,qr⟩,pp,hh,ok⟩:=q_;dsimp only at H|-
    go_upto_region 25 with (first|((with_reducible refine aA (N:=15) rfl ?_);refine aC ?fT (N:=15) ?iB (cs:= #[.int .u32 0,.int .u16 0]) (t:=65) ?eY ?_;(case iB=>rfl);(case fT=>rfl);(case eY=>first|(go_simp;done)|(go_simp;rfl));intro gx bV nP bw cB;have AqS:=aa.mk (show w.heap.size<=gx by rw [bV];exact af HB.out);have zA:=aa.mk bw;have ai:=cB;replace HB:=mB HB ai;replace bg:=mX bg ai;replace br:=mX br ai;replace bL:=mR bL ai;replace bI:=mR bI ai;replace aZ:=mX aZ ai;replace bS:=mX bS ai;replace cG:=mR cG ai;replace cM:=mX cM ai;clear ai;clear bV bw cB)|((with_reducible refine aA (N:=16) rfl ?_);refine aC ?fT (N:=16) ?iB (cs:= #[.int .u32 0,.int .u16 0]) (t:=65) ?eY ?_;(case iB=>rfl);(case fT=>rfl);(case eY=>first|(go_simp;done)|(go_simp;rfl));intro gy bV yD bw cB;have AqT:=aa.mk (show w.heap.size<=gy by rw [bV];exact af HB.out);have AJ:=aa.mk bw;have EO:aa (gx≠gy):=⟨by rw [bV];exact (cW zA).out⟩;have ai:=cB;replace HB:=mB HB ai;replace bg:=mX bg ai;replace br:=mX br ai;replace bL:=mR bL ai;replace bI:=mR bI ai;replace aZ:=mX aZ ai;replace bS:=mX bS ai;replace cG:=mR cG ai;replace cM:=mX cM ai;replace zA:=mX zA ai;clear ai;clear bV bw cB)|((refine dh rfl rfl rfl rfl rfl zA.out iM.out rfl (by simp [Value.oneCell']) ?_);intro qY hs_ ag;replace bg:=oX ag bg zA (by decide);replace br:=oX ag br zA (by decide);replace bL:=oR ag bL zA (by decide);replace bI:=oR ag bI zA (by decide);replace aZ:=oX ag aZ zA (by decide);replace bS:=oX ag bS zA (by decide);replace cG:=oR ag cG zA (by decide);replace cM:=oX ag cM zA (by decide);replace AJ:=oN ag AJ (cg EO);replace HB:=oB ag HB AqS;clear ag;replace zA:=aa.mk hs_;clear hs_)|((refine dh rfl rfl rfl rfl rfl AJ.out iM.out rfl (by simp [Value.oneCell']) ?_);intro BX hs_ ag;replace bg:=oX ag bg AJ (by decide);replace br:=oX ag br AJ (by decide);replace bL:=oR ag bL AJ (by decide);replace bI:=oR ag bI AJ (by decide);replace aZ:=oX ag aZ AJ (by decide);replace bS:=oX ag bS AJ (by decide);replace cG:=oR ag cG AJ (by decide);replace cM:=oX ag cM AJ (by decide);replace zA:=oN ag zA EO;replace HB:=oB ag HB AqT;clear ag;replace AJ:=aa.mk hs_;clear hs_))
    cases ok with
    |false=>
     rw [av (by decide)] at H
     obtain rfl:=cN H
     (try dsimp only)
     go_wp2_with (first|((refine dh rfl rfl rfl rfl rfl bg.out eN.out rfl (by simp [Value.oneCell']) ?_);intro qJ hs_ ag;replace br:=oX ag br bg (by decide);replace bL:=oR ag bL bg (by decide);replace bI:=oR ag bI bg (by decide);replace aZ:=oN ag aZ (cg cu);replace bS:=oX ag bS bg (by decide);replace cG:=oR ag cG bg (by decide);replace cM:=oX ag cM bg (by decide);replace zA:=oX ag zA bg (by decide);replace AJ:=oX ag AJ bg (by decide);replace HB:=oB ag HB kM;clear ag;replace bg:=aa.mk hs_;clear hs_)|((refine dh rfl rfl rfl rfl rfl br.out iS.out rfl (by simp [Value.oneCell']) ?_);intro Fa hs_ ag;replace bg:=oX ag bg br (by decide);replace bL:=oR ag bL br (by decide);replace bI:=oR ag bI br (by decide);replace aZ:=oX ag aZ br (by decide);replace bS:=oN ag bS (cg bY);replace cG:=oR ag cG br (by decide);replace cM:=oX ag cM br (by decide);replace zA:=oX ag zA br (by decide);replace AJ:=oX ag AJ br (by decide);replace HB:=oB ag HB mN;clear ag;replace br:=aa.mk hs_;clear hs_))
     (try simp only [Exit.inBlock,Exit.then])
     refine bodyPost_ret (iq rfl _ _ _ _ _ _ _ _ (0,0) (0,0) _ _ rfl bg.out iW rfl eN.out rfl br.out nO rfl iS.out) rfl ?_;exact ⟨_,_,_,rfl,Kd.bX _ _ _ _ _,Kd.bX _ _ _ _ _,Kd.bX _ _ _ _ _,HB.out⟩
    |true=>
     rw [aq rfl] at H
     obtain rfl:=cN H
     (try dsimp only)
     go_upto_region 32 with (first|((with_reducible refine aA (N:=143) rfl ?_);refine US ?fT (N:=143) ?iB ⟨qx,qp⟩ ⟨qy,qr⟩ ?eY ?_;(case iB=>rfl);(case fT=>rfl);(case eY=>first|(go_simp;done)|(go_simp;rfl));intro Ai ci qJ ho_ AjF;have kP:=aa.mk (Kd.bP ho_ (af HB.out));have ai:=AjF;replace HB:=mB HB ai;replace bg:=mX bg ai;replace br:=mX br ai;replace bL:=mR bL ai;replace bI:=mR bI ai;replace aZ:=mX aZ ai;replace bS:=mX bS ai;replace cG:=mR cG ai;replace cM:=mX cM ai;replace zA:=mX zA ai;replace AJ:=mX AJ ai;clear ai;clear ho_ AjF)|((refine jO rfl rfl (i:=6) (v:= .slice Ai ([⟨qx,qp⟩,⟨qy,qr⟩]:List ng).length ci) (cs':= #[.int .u8 1,.int .u32 s,.int .u16 0,.int .u32 d,.int .u16 0,.int .u8 0,.slice Ai ([⟨qx,qp⟩,⟨qy,qr⟩]:List ng).length ci]) bS.out rfl ?eY ?_);(case eY=>(have m_:=(aN bS.out 6).trans (rfl:_=some (.slice none 0 0:Value)));(have pU:=ae bS.out 6);first|(go_simp;done)|(go_simp;rfl));intro Fa hs_ ag;replace bg:=oX ag bg bS (by decide);replace br:=oN ag br bY;replace bL:=oR ag bL bS (by decide);replace bI:=oR ag bI bS (by decide);replace aZ:=oX ag aZ bS (by decide);replace cG:=oR ag cG bS (by decide);replace cM:=oX ag cM bS (by decide);replace zA:=oX ag zA bS (by decide);replace AJ:=oX ag AJ bS (by decide);replace kP:=oI ag kP bS (by decide);replace HB:=oB ag HB mO;clear ag;replace bS:=aa.mk hs_;clear hs_)|(refine Kd.bU rfl (bM rfl rfl zA.out Try.underlying65 rfl iM.out) ?_)|(refine Kd.bU rfl (bM rfl rfl AJ.out Try.underlying65 rfl iM.out) ?_))
     (try dsimp only)
     go_upto_region 32 with (fail)
     refine dB (n:=5) (S:=fun w'=>w'.heap[gp]?=some (.cells #[.int .u8 a,.int .u8 t,.int .u8 1,.int .u16 i,.int .u8 fl,.int .u16 cr,.int .u32 s,.int .u32 d,.slice Ao o.length co,.slice Ab b.length cb] 73 (0,0)) /\ w'.heap[gf]?=some (.cells #[.int .u8 1,.int .u32 s,.int .u16 0,.int .u32 d,.int .u16 0,.int .u8 0,.slice Ai ([⟨qx,qp⟩,⟨qy,qr⟩]:List ng).length ci] 124 (0,0))) (ds:=[]) #[false,false,false,false,false] (by kernel_rfl) rfl rfl ⟨aZ.out,bS.out⟩ (fun hHeld=> ?_);refine bF rlk.Qz.tab rlk.Qz.bits (fun ax eu=> ?_);have ai:=bf (Below.refl Fa.heap.size Fa);replace HB:=mB HB ai;replace bg:=mX bg ai;replace br:=mX br ai;replace bL:=mR bL ai;replace bI:=mR bI ai;replace aZ:=mX aZ ai;replace bS:=mX bS ai;replace cG:=mR cG ai;replace cM:=mX cM ai
     replace zA:=mX zA ai;replace AJ:=mX AJ ai;replace kP:=mI kP ai;clear ai;generalize Fa.drew=Vb at HB bg br bL bI aZ bS cG cM zA AJ kP hHeld|-
     refine tv 0 154 (.agg #[.int .u8 a,.int .u8 t,.int .u8 1,.int .u16 i,.int .u8 fl,.int .u16 cr,.int .u32 s,.int .u32 d,.slice Ao o.length co,.slice Ab b.length cb]) ax eu hHeld ?_ ?_
     ·intro w' s0
      obtain ⟨s0,s1⟩:=s0;exact bM (p:= .tmp 5) (ty:=73) (by rfl) (by rfl) s0 iW (by rfl) eN.out
     refine nz 154 ?_;refine tv 1 155 (.agg #[.int .u8 1,.int .u32 s,.int .u16 0,.int .u32 d,.int .u16 0,.int .u8 0,.slice Ai ([⟨qx,qp⟩,⟨qy,qr⟩]:List ng).length ci]) ax eu hHeld ?_ ?_
     ·intro w' s0
      obtain ⟨s0,s1⟩:=s0;exact bM (p:= .tmp 7) (ty:=124) (by rfl) (by rfl) s1 nO (by rfl) iS.out
     refine nz 155 ?_;refine oz 2 (none) ax (fun K hK=> ?_);refine cZ (by rfl) (by rfl) rfl rfl rfl bg.out eN.out rfl (by simp [Value.oneCell']) ?_;intro w19 hs_ ag;replace br:=oX ag br bg (by decide);replace bL:=oR ag bL bg (by decide);replace bI:=oR ag bI bg (by decide);replace aZ:=oN ag aZ (cg cu);replace bS:=oX ag bS bg (by decide);replace cG:=oR ag cG bg (by decide);replace cM:=oX ag cM bg (by decide);replace zA:=oX ag zA bg (by decide);replace AJ:=oX ag AJ bg (by decide);replace kP:=oI ag kP bg (by decide);replace HB:=oB ag HB kM;clear ag;replace bg:=aa.mk hs_;clear hs_;refine hK.out _ _ ⟨aZ.out,bS.out⟩ (fun hHeld=> ?_);clear hK K;refine oz 3 (none) ax (fun K hK=> ?_)
     refine cZ (by rfl) (by rfl) rfl rfl rfl br.out iS.out rfl (by simp [Value.oneCell']) ?_;intro w20 hs_ ag;replace bg:=oX ag bg br (by decide);replace bL:=oR ag bL br (by decide);replace bI:=oR ag bI br (by decide);replace aZ:=oX ag aZ br (by decide);replace bS:=oN ag bS (cg bY);replace cG:=oR ag cG br (by decide);replace cM:=oX ag cM br (by decide);replace zA:=oX ag zA br (by decide);replace AJ:=oX ag AJ br (by decide);replace kP:=oI ag kP br (by decide);replace HB:=oB ag HB mN;clear ag;replace br:=aa.mk hs_;clear hs_;refine hK.out _ _ ⟨aZ.out,bS.out⟩ (fun hHeld=> ?_);clear hK K;refine pz 4 4 ax ?_;refine dz ax ?_;clear ax eu hHeld
     (try dsimp only)
     go_wp2
     (try simp only [Exit.inBlock,Exit.then])
     refine bodyPost_ret (iq rfl _ _ _ _ _ _ _ _ (0,0) (0,0) _ _ rfl bg.out iW rfl eN.out rfl br.out nO rfl iS.out) rfl ?_;exact ⟨_,_,_,rfl,bL.out,bI.out,kP.out,HB.out⟩
  |true=>
   rw [aq rfl] at H
   obtain rfl:=cN H
   (try dsimp only)
   go_upto_region 22 with (fail)
   refine dB (n:=14) (S:=fun w'=>w'.cell? ⟨gu,3,none⟩=some (.int .u32 mr)) (ds:=[]) #[false,false,false,false,false,false,false,false,false,false,false,false,false,false] (by kernel_rfl) rfl rfl ((aN cM.out 3).trans rfl) (fun hHeld=> ?_);refine bF rlk.FP.tab rlk.FP.bits (fun ax eu=> ?_);have ai:=bf (Below.refl w9.heap.size w9);replace HB:=mB HB ai;replace bg:=mX bg ai;replace br:=mX br ai;replace bL:=mR bL ai;replace bI:=mR bI ai;replace aZ:=mX aZ ai;replace bS:=mX bS ai;replace cG:=mR cG ai;replace cM:=mX cM ai;clear ai;generalize w9.drew=ku at HB bg br bL bI aZ bS cG cM hHeld|-
   refine pz 0 113 ax ?_;refine pz 4 117 ax ?_;refine tz 1 114 ax eu hHeld ?_;refine pz 2 115 ax ?_;refine pz 3 116 ax ?_;refine pz 8 121 ax ?_;refine pz 9 122 ax ?_;refine tz 5 118 ax eu hHeld ?_;refine pz 6 119 ax ?_;refine pz 7 120 ax ?_;refine oz 10 (none) ax (fun K hK=> ?_);refine iy (i:=2) (v:= .int .u16 (mr / 65536 % 65536)) (cs':= #[.int .u8 1,.int .u32 s,.int .u16 (mr / 65536 % 65536),.int .u32 d,.int .u16 0,.int .u8 0,.slice none 0 0]) (by rfl) (by rfl) bS.out rfl (by (have m_:=(aN bS.out 2).trans (rfl:_=some (.int .u16 0:Value)));(have pU:=ae bS.out 2);first|(go_simp;done)|(go_simp;rfl)) ?_;intro sn hs_ ag;replace bg:=oX ag bg bS (by decide);replace br:=oN ag br bY;replace bL:=oR ag bL bS (by decide);replace bI:=oR ag bI bS (by decide)
   replace aZ:=oX ag aZ bS (by decide);replace cG:=oR ag cG bS (by decide);replace cM:=oX ag cM bS (by decide);replace HB:=oB ag HB mO;clear ag;replace bS:=aa.mk hs_;clear hs_;refine hK.out _ _ ((aN cM.out 3).trans rfl) (fun hHeld=> ?_);clear hK K;refine pz 11 123 ax ?_;refine pz 12 124 ax ?_;refine oz 13 (none) ax (fun K hK=> ?_);refine iy (i:=4) (v:= .int .u16 (mr / 65536 % 65536)) (cs':= #[.int .u8 1,.int .u32 s,.int .u16 (mr / 65536 % 65536),.int .u32 d,.int .u16 (mr / 65536 % 65536),.int .u8 0,.slice none 0 0]) (by rfl) (by rfl) bS.out rfl (by (have m_:=(aN bS.out 4).trans (rfl:_=some (.int .u16 0:Value)));(have pU:=ae bS.out 4);first|(go_simp;done)|(go_simp;rfl)) ?_;intro nP hs_ ag;replace bg:=oX ag bg bS (by decide);replace br:=oN ag br bY
   replace bL:=oR ag bL bS (by decide);replace bI:=oR ag bI bS (by decide);replace aZ:=oX ag aZ bS (by decide);replace cG:=oR ag cG bS (by decide);replace cM:=oX ag cM bS (by decide);replace HB:=oB ag HB mO;clear ag;replace bS:=aa.mk hs_;clear hs_;refine hK.out _ _ ((aN cM.out 3).trans rfl) (fun hHeld=> ?_);clear hK K;refine dz ax ?_;clear ax eu hHeld
   (try dsimp only)
   go_upto_region 32 with (fail)
   refine dB (n:=5) (S:=fun w'=>w'.heap[gp]?=some (.cells #[.int .u8 a,.int .u8 t,.int .u8 1,.int .u16 i,.int .u8 fl,.int .u16 cr,.int .u32 s,.int .u32 d,.slice Ao o.length co,.slice Ab b.length cb] 73 (0,0)) /\ w'.heap[gf]?=some (.cells #[.int .u8 1,.int .u32 s,.int .u16 (mr / 65536 % 65536),.int .u32 d,.int .u16 (mr / 65536 % 65536),.int .u8 0,.slice none 0 0] 124 (0,0))) (ds:=[]) #[false,false,false,false,false] (by kernel_rfl) rfl rfl ⟨aZ.out,bS.out⟩ (fun hHeld=> ?_);refine bF rlk.Qz.tab rlk.Qz.bits (fun ax eu=> ?_);have ai:=bf (Below.refl nP.heap.size nP);replace HB:=mB HB ai;replace bg:=mX bg ai;replace br:=mX br ai;replace bL:=mR bL ai;replace bI:=mR bI ai;replace aZ:=mX aZ ai;replace bS:=mX bS ai;replace cG:=mR cG ai;replace cM:=mX cM ai;clear ai
   generalize nP.drew=yD at HB bg br bL bI aZ bS cG cM hHeld|-
   refine tv 0 154 (.agg #[.int .u8 a,.int .u8 t,.int .u8 1,.int .u16 i,.int .u8 fl,.int .u16 cr,.int .u32 s,.int .u32 d,.slice Ao o.length co,.slice Ab b.length cb]) ax eu hHeld ?_ ?_
   ·intro w' s0
    obtain ⟨s0,s1⟩:=s0;exact bM (p:= .tmp 5) (ty:=73) (by rfl) (by rfl) s0 iW (by rfl) eN.out
   refine nz 154 ?_;refine tv 1 155 (.agg #[.int .u8 1,.int .u32 s,.int .u16 (mr / 65536 % 65536),.int .u32 d,.int .u16 (mr / 65536 % 65536),.int .u8 0,.slice none 0 0]) ax eu hHeld ?_ ?_
   ·intro w' s0
    obtain ⟨s0,s1⟩:=s0;exact bM (p:= .tmp 7) (ty:=124) (by rfl) (by rfl) s1 nO (by rfl) iS.out
   refine nz 155 ?_;refine oz 2 (none) ax (fun K hK=> ?_);refine cZ (by rfl) (by rfl) rfl rfl rfl bg.out eN.out rfl (by simp [Value.oneCell']) ?_;intro qY hs_ ag;replace br:=oX ag br bg (by decide);replace bL:=oR ag bL bg (by decide);replace bI:=oR ag bI bg (by decide);replace aZ:=oN ag aZ (cg cu);replace bS:=oX ag bS bg (by decide);replace cG:=oR ag cG bg (by decide);replace cM:=oX ag cM bg (by decide);replace HB:=oB ag HB kM;clear ag;replace bg:=aa.mk hs_;clear hs_;refine hK.out _ _ ⟨aZ.out,bS.out⟩ (fun hHeld=> ?_);clear hK K;refine oz 3 (none) ax (fun K hK=> ?_);refine cZ (by rfl) (by rfl) rfl rfl rfl br.out iS.out rfl (by simp [Value.oneCell']) ?_;intro BX hs_ ag;replace bg:=oX ag bg br (by decide);replace bL:=oR ag bL br (by decide)
   replace bI:=oR ag bI br (by decide);replace aZ:=oX ag aZ br (by decide);replace bS:=oN ag bS (cg bY);replace cG:=oR ag cG br (by decide);replace cM:=oX ag cM br (by decide);replace HB:=oB ag HB mN;clear ag;replace br:=aa.mk hs_;clear hs_;refine hK.out _ _ ⟨aZ.out,bS.out⟩ (fun hHeld=> ?_);clear hK K;refine pz 4 4 ax ?_;refine dz ax ?_;clear ax eu hHeld
   (try dsimp only)
   go_wp2
   (try simp only [Exit.inBlock,Exit.then])
   refine bodyPost_ret (iq rfl _ _ _ _ _ _ _ _ (0,0) (0,0) _ _ rfl bg.out iW rfl eN.out rfl br.out nO rfl iS.out) rfl ?_;exact ⟨_,_,_,rfl,bL.out,bI.out,Kd.bX _ _ _ _ _,HB.out⟩
theorem rlk.bad (k:Nat) (A:Option Addr) (c:Nat) (l:List Int) (a t pr i fl cr s d:Int) (o b:List Int) (e_:Int) (w:World) (hC:Kd.C (Kd.int .u8) w A l.length l) (hL:l.length<=c) (hP:bC.f k l=some (a,t,pr,i,fl,cr,s,d,o,b,e_)) (he:¬ e_=0):
  Calls Try.prog 66 #[.slice A l.length c] w fun e w'=>(LK.err e_).Told w.heap.size w e w':=by
 have iW:=Try.underlying73;have nO:=Try.underlying124;have HB:=gI w;have HC:=aa.mk hC;have HL:=aa.mk hL;have HP:=aa.mk hP;have eN:aa ((Try.prog.info? 73).map (·.size)=some 10):=⟨by kernel_rfl⟩
 have iS:aa ((Try.prog.info? 124).map (·.size)=some 7):=⟨by kernel_rfl⟩
 clear hC hL hP
 go_enter Try.func66,Try.ntmps66
 go_upto_region 1 with (first|((with_reducible refine aA (N:=2) rfl ?_);refine aC ?fT (N:=2) ?iB (cs:=jL) (t:=73) ?eY ?_;(case iB=>rfl);(case fT=>rfl);(case eY=>first|(go_simp;done)|(go_simp;rfl));intro gi bV w1 bw cB;have kM:=aa.mk (show w.heap.size<=gi by rw [bV];exact af HB.out);have bg:=aa.mk bw;have ai:=cB;replace HB:=mB HB ai;clear ai;clear bV bw cB)|((with_reducible refine aA (N:=3) rfl ?_);refine aC ?fT (N:=3) ?iB (cs:=lN) (t:=124) ?eY ?_;(case iB=>rfl);(case fT=>rfl);(case eY=>first|(go_simp;done)|(go_simp;rfl));intro gq bV w2 bw cB;have mN:=aa.mk (show w.heap.size<=gq by rw [bV];exact af HB.out);have br:=aa.mk bw;have ai:=cB;replace HB:=mB HB ai;replace bg:=mX bg ai;clear ai;clear bV bw cB))
 go_wp2_with fail
 refine (bC.calls k A c l a t pr i fl cr s d o b e_ _ (Kd.aW HC.out HB.out) HL.out HP.out).mono ?_;rintro ev w3 ⟨vo,vb,rfl,ho,qd,hb⟩;have bL:=lO ho HB;obtain ⟨Ao,co,rfl,_,_⟩:=Kd.cj ho;clear ho;have bI:=lO qd HB;obtain ⟨Ab,cb,rfl,_,_⟩:=Kd.cj qd;clear qd;have ai:=hb;replace HB:=mB HB ai;replace bg:=mX bg ai;replace br:=mX br ai;clear ai;clear hb HP HC HL
 (try dsimp only)
 go_upto_region 2 with (((refine fc rfl rfl rfl rfl rfl eN.out rfl (by simp [Value.oneCell']) ?_);intro fU gV dg))
 revert fU gV dg;intro w4 gV dg;have aZ:aa (w4.heap[w3.heap.size]?=some (.cells #[.int .u8 a,.int .u8 t,.int .u8 pr,.int .u16 i,.int .u8 fl,.int .u16 cr,.int .u32 s,.int .u32 d,.slice Ao o.length co,.slice Ab b.length cb] 73 (0,0))):=⟨gV⟩
 have lV:=yY HB;have cu:=cW bg;have ai:=dg;replace HB:=mB HB ai;replace bg:=mX bg ai;replace br:=mX br ai;replace bL:=mR bL ai;replace bI:=mR bI ai;clear ai;clear gV dg;generalize w3.heap.size=gp at aZ lV cu|-
 have Wc:(e_==0)=false:=fq he;have he2:(e_ !=0)=true:=bne_iff_ne.2 he;clear he;have H:some (LK.err e_)=some (LK.err e_):=rfl
 (try dsimp only)
 go_wp2_with (first|((refine dh rfl rfl rfl rfl rfl bg.out eN.out rfl (by simp [Value.oneCell']) ?_);intro w5 hs_ ag;replace br:=oX ag br bg (by decide);replace bL:=oR ag bL bg (by decide);replace bI:=oR ag bI bg (by decide);replace aZ:=oN ag aZ (cg cu);replace HB:=oB ag HB kM;clear ag;replace bg:=aa.mk hs_;clear hs_)|((refine dh rfl rfl rfl rfl rfl br.out iS.out rfl (by simp [Value.oneCell']) ?_);intro w6 hs_ ag;replace bg:=oX ag bg br (by decide);replace bL:=oR ag bL br (by decide);replace bI:=oR ag bI br (by decide);replace aZ:=oX ag aZ br (by decide);replace HB:=oB ag HB mN;clear ag;replace br:=aa.mk hs_;clear hs_))
 (try simp only [Exit.inBlock,Exit.then])
 refine bodyPost_ret (iq rfl _ _ _ _ _ _ _ _ (0,0) (0,0) _ _ rfl bg.out iW rfl eN.out rfl br.out nO rfl iS.out) rfl ?_;exact ⟨_,_,_,rfl,Kd.bX _ _ _ _ _,Kd.bX _ _ _ _ _,Kd.bX _ _ _ _ _,HB.out⟩
theorem rlk.other (k:Nat) (A:Option Addr) (c:Nat) (l:List Int) (a t pr i fl cr s d:Int) (o b:List Int) (w:World) (hC:Kd.C (Kd.int .u8) w A l.length l) (hL:l.length<=c) (hP:bC.f k l=some (a,t,pr,i,fl,cr,s,d,o,b,0)) (VJ:¬ pr=17) (n6:¬ pr=6) (n1:¬ pr=1):
  Calls Try.prog 66 #[.slice A l.length c] w fun e w'=>(LK.err 21).Told w.heap.size w e w':=by
 have iW:=Try.underlying73;have nO:=Try.underlying124;have HB:=gI w;have HC:=aa.mk hC;have HL:=aa.mk hL;have HP:=aa.mk hP;have eN:aa ((Try.prog.info? 73).map (·.size)=some 10):=⟨by kernel_rfl⟩
 have iS:aa ((Try.prog.info? 124).map (·.size)=some 7):=⟨by kernel_rfl⟩
 clear hC hL hP
 go_enter Try.func66,Try.ntmps66
 go_upto_region 1 with (first|((with_reducible refine aA (N:=2) rfl ?_);refine aC ?fT (N:=2) ?iB (cs:=jL) (t:=73) ?eY ?_;(case iB=>rfl);(case fT=>rfl);(case eY=>first|(go_simp;done)|(go_simp;rfl));intro gi bV w1 bw cB;have kM:=aa.mk (show w.heap.size<=gi by rw [bV];exact af HB.out);have bg:=aa.mk bw;have ai:=cB;replace HB:=mB HB ai;clear ai;clear bV bw cB)|((with_reducible refine aA (N:=3) rfl ?_);refine aC ?fT (N:=3) ?iB (cs:=lN) (t:=124) ?eY ?_;(case iB=>rfl);(case fT=>rfl);(case eY=>first|(go_simp;done)|(go_simp;rfl));intro gq bV w2 bw cB;have mN:=aa.mk (show w.heap.size<=gq by rw [bV];exact af HB.out);have br:=aa.mk bw;have ai:=cB;replace HB:=mB HB ai;replace bg:=mX bg ai;clear ai;clear bV bw cB))
 go_wp2_with fail
 refine (bC.calls k A c l a t pr i fl cr s d o b 0 _ (Kd.aW HC.out HB.out) HL.out HP.out).mono ?_;rintro ev w3 ⟨vo,vb,rfl,ho,qd,hb⟩;have bL:=lO ho HB;obtain ⟨Ao,co,rfl,_,_⟩:=Kd.cj ho;clear ho;have bI:=lO qd HB;obtain ⟨Ab,cb,rfl,_,_⟩:=Kd.cj qd;clear qd;have ai:=hb;replace HB:=mB HB ai;replace bg:=mX bg ai;replace br:=mX br ai;clear ai;clear hb HP HC HL
 (try dsimp only)
 go_upto_region 2 with (((refine fc rfl rfl rfl rfl rfl eN.out rfl (by simp [Value.oneCell']) ?_);intro fU gV dg))
 revert fU gV dg;intro w4 gV dg;have aZ:aa (w4.heap[w3.heap.size]?=some (.cells #[.int .u8 a,.int .u8 t,.int .u8 pr,.int .u16 i,.int .u8 fl,.int .u16 cr,.int .u32 s,.int .u32 d,.slice Ao o.length co,.slice Ab b.length cb] 73 (0,0))):=⟨gV⟩
 have lV:=yY HB;have cu:=cW bg;have ai:=dg;replace HB:=mB HB ai;replace bg:=mX bg ai;replace br:=mX br ai;replace bL:=mR bL ai;replace bI:=mR bI ai;clear ai;clear gV dg;generalize w3.heap.size=gp at aZ lV cu|-
 have oL:=cz aZ.out 2 rfl;have uG:=cz aZ.out 6 rfl;have vM:=cz aZ.out 7 rfl
 go_upto_region 5 with (((refine fc rfl rfl rfl rfl rfl iS.out rfl (by simp [Value.oneCell']) ?_);intro fU gV dg))
 clear oL uG vM;revert fU gV dg;intro w5 gV dg;have bS:aa (w5.heap[w4.heap.size]?=some (.cells #[.int .u8 pr,.int .u32 s,.int .u16 0,.int .u32 d,.int .u16 0,.int .u8 0,.slice none 0 0] 124 (0,0))):=⟨gV⟩
 have mO:=yY HB;have bY:=cW br;have ai:=dg;replace HB:=mB HB ai;replace bg:=mX bg ai;replace br:=mX br ai;replace bL:=mR bL ai;replace bI:=mR bI ai;replace aZ:=mX aZ ai;clear ai;clear gV dg;generalize w4.heap.size=gf at bS mO bY|-
 have oL:=cz aZ.out 2 rfl;have AnZ:(pr==17)=false:=fq VJ;have An0:(pr !=17)=true:=bne_iff_ne.2 VJ;have n61:(pr==6)=false:=fq n6;have n62:(pr !=6)=true:=bne_iff_ne.2 n6;have n11:(pr==1)=false:=fq n1;have n12:(pr !=1)=true:=bne_iff_ne.2 n1;clear VJ n6 n1;have H:some (LK.err 21)=some (LK.err 21):=rfl
 (try dsimp only)
 go_wp2_with (first|((refine dh rfl rfl rfl rfl rfl bg.out eN.out rfl (by simp [Value.oneCell']) ?_);intro w6 hs_ ag;replace br:=oX ag br bg (by decide);replace bL:=oR ag bL bg (by decide);replace bI:=oR ag bI bg (by decide);replace aZ:=oN ag aZ (cg cu);replace bS:=oX ag bS bg (by decide);replace HB:=oB ag HB kM;clear ag;replace bg:=aa.mk hs_;clear hs_)|((refine dh rfl rfl rfl rfl rfl br.out iS.out rfl (by simp [Value.oneCell']) ?_);intro w7 hs_ ag;replace bg:=oX ag bg br (by decide);replace bL:=oR ag bL br (by decide);replace bI:=oR ag bI br (by decide);replace aZ:=oX ag aZ br (by decide);replace bS:=oN ag bS (cg bY);replace HB:=oB ag HB mN;clear ag;replace br:=aa.mk hs_;clear hs_))
 (try simp only [Exit.inBlock,Exit.then])
 refine bodyPost_ret (iq rfl _ _ _ _ _ _ _ _ (0,0) (0,0) _ _ rfl bg.out iW rfl eN.out rfl br.out nO rfl iS.out) rfl ?_;exact ⟨_,_,_,rfl,Kd.bX _ _ _ _ _,Kd.bX _ _ _ _ _,Kd.bX _ _ _ _ _,HB.out⟩
theorem BS.calls (k:Nat) (A:Option Addr) (c:Nat) (l:List Int) (r:LK) (w:World) (hC:Kd.C (Kd.int .u8) w A l.length l) (hL:l.length<=c) (h:BS.f k l=some r) (hm:∀ a t pr i fl cr s d o b e_,bC.f k l=some (a,t,pr,i,fl,cr,s,d,o,b,e_) ->∀ mt mc ms mr mb e,ek.f b=some (mt,mc,ms,mr,mb,e) ->gJ mb /\ mb.length<=100000):
  Calls Try.prog 66 #[.slice A l.length c] w fun e w'=>r.Told w.heap.size w e w':=by
 unfold BS.f at h
 obtain ⟨⟨a,t,pr,i,fl,cr,s,d,o,b,e_⟩,hp,h⟩:=bR h;dsimp only at h
 by_cases he:e_=0
 rotate_left
 ·rw [av he] at h
  obtain rfl:=cN h;exact rlk.bad k A c l a t pr i fl cr s d o b e_ w hC hL hp he
 rw [aq he] at h
 subst he
 by_cases Fc:pr=17
 ·rw [aq Fc] at h
  subst Fc;exact rlk.udp k A c l a t i fl cr s d o b r w hC hL hp h
 rw [av Fc] at h
 by_cases h6:pr=6
 ·rw [aq h6] at h
  subst h6;exact rlk.tcp k A c l a t i fl cr s d o b r w hC hL hp h
 rw [av h6] at h
 by_cases h1:pr=1
 ·rw [aq h1] at h
  subst h1;exact rlk.zg k A c l a t i fl cr s d o b r w hC hL hp h (hm _ _ _ _ _ _ _ _ _ _ _ hp)
 rw [av h1] at h
 obtain rfl:=cN h;exact rlk.other k A c l a t pr i fl cr s d o b w hC hL hp Fc h6 h1
end Go.Proofs.Ytkmimamminddiaa.PB
namespace Go.Proofs.Ytkmimamminddiaa.Pure
open Go.RowKit Go.Proofs.Ytkmimamminddiaa.PB Go.Proofs.ah.bT Go.Proofs.ah.cY
open Go.Proofs.Ytkmimamminddiaa.Spec Go.Proofs.Ytkmimamminddiaa.jJ
section
variable {a t i fl cr s d:Int} {o b:List Int}
theorem UT (hs:uJ s) (hd:uJ d) (hb:gJ b) (hl:b.length<=3000):∃ r:LK,rR 4000 a t i fl cr s d o b=some r /\ EM 4000 a t i fl cr s d o b=some r /\ r.qD.length<=2:=by
 obtain ⟨us,ud,uc,ub,e,hu,h1,h2,h3,h4,h5⟩:=UM hb;unfold rR EM;rw [F3 hb (by omega),MF hb (by omega),hu,bD,bD]
 dsimp only
 rw [P7 hs hd h1 h2 h3 h4 (by omega) 4000 (Nat.le_refl _),MG hs hd h1 h2 h3 h4 (by omega) 4000 (Nat.le_refl _),bD,bD];generalize decide (uc=0 \/ uc=KI (sR s d us ud ub))=rt
 by_cases he:e=0
 ·rw [aq he];try rw [aq he]
  cases rt<;>exact ⟨_,rfl,rfl,Nat.zero_le _⟩
 rw [av he];try rw [av he]
 exact ⟨_,rfl,rfl,Nat.zero_le _⟩
theorem UU (hs:uJ s) (hd:uJ d) (hb:gJ b) (hl:b.length<=3000):∃ r:LK,rS 4000 a t i fl cr s d o b=some r /\ EN 4000 a t i fl cr s d o b=some r /\ r.qD.length<=2:=by
 obtain ⟨ts,td,tq,ta,tf,tw,tc,tu,tJ,tb,e,hu,h1,h2,h3,h4,h5,h6,h7,h8,h9,h10,Xz,IW,h13⟩:=Ou hb;unfold rS EN;rw [FX hb (by omega),Mz hb (by omega),hu,bD,bD]
 dsimp only
 rw [P3 hs hd h5 h9 h10 Xz IW (by omega) 4000 (Nat.le_refl _),MC hs hd h5 h9 h10 Xz IW (by omega) 4000 (Nat.le_refl _),bD,bD];generalize (norm (tT s d (nL ts td tq ta tf tw tc tu tJ tb))==65535)=rt
 by_cases he:e=0
 ·rw [aq he];try rw [aq he]
  cases rt<;>exact ⟨_,rfl,rfl,Nat.zero_le _⟩
 rw [av he];try rw [av he]
 exact ⟨_,rfl,rfl,Nat.zero_le _⟩
theorem Qg (hb:gJ b) (hl:b.length<=3000):∃ r:LK,nH 4000 a t i fl cr s d o b=some r /\ AH 4000 a t i fl cr s d o b=some r /\ r.qD.length<=2:=by
 obtain ⟨mt,mc,ms,mr,mb,e,hu,h1,h2,h3,h4,h5,h6⟩:=C0 hb;unfold nH AH;rw [fM.rW hb (by omega),fM.oP hb (by omega),hu,bD,bD]
 dsimp only
 obtain ⟨r1,r2⟩:=fM.P8 (s:=ms) (r:=mr) h1 h2 h5 (by omega) 4000 (Nat.le_refl _);obtain ⟨ec,e1,e2⟩:=fM.Xy mt mc ms mr ms mr mb mb;obtain ⟨er,e3,e4⟩:=fM.UC mt mc ms mr mc ms mr mb mb;rw [r1,r2,e1,e2,e3,e4,KX h5 (by omega) 4000 (by omega)];simp only [bD];generalize (norm (kW (words (fM.cQ mt mc ms mr mb)))==65535)=rt
 by_cases he:e=0
 rotate_left
 ·rw [av he];try rw [av he]
  exact ⟨_,rfl,rfl,Nat.zero_le _⟩
 rw [aq he];try rw [aq he]
 cases rt with
 |false=>exact ⟨_,rfl,rfl,Nat.zero_le _⟩
 |true=>
  rw [aq rfl];try rw [aq rfl]
  cases ec with
  |true=>exact ⟨_,rfl,rfl,Nat.zero_le _⟩
  |false=>
   rw [av (by decide)];try rw [av (by decide)]
   cases er with
   |false=>exact ⟨_,rfl,rfl,Nat.zero_le _⟩
   |true=>
    rw [aq rfl];try rw [aq rfl]
    cases hw:iL mb with
    |none=>
     rw [xK hw,show wq mb=none by unfold wq;rw [hw];rfl];exact ⟨_,rfl,rfl,Nat.zero_le _⟩
    |some y=>
     rw [uK hw,show wq mb=some (⟨vU mb 12,(sV mb y.toNat).1⟩,⟨vU mb 16,(sV mb y.toNat).2⟩) by unfold wq;rw [hw];rfl];exact ⟨_,rfl,rfl,Nat.le_refl _⟩
end
theorem Qh {l:List Int} (h:gJ l) (hl:l.length<=3000):∃ r:LK,iQ.f 4000 l=some r /\ BS.f 4000 l=some r /\ r.qD.length<=2:=by
 obtain ⟨s0,hp,hq,hs⟩:=both h (by omega) 4000 (by omega);obtain ⟨a,t,pr,i,fl,cr,s,d,o,b,e,hi,ha,ht,Qx,hii,hfl,UI,hs',hd',ho,ho4,AjG,hb,UW⟩:=AE h;rw [hs,hi] at hp hq
 unfold iQ.f BS.f;rw [hp,hq,bD,bD]
 dsimp only
 by_cases he:e=0
 ·rw [aq he];try rw [aq he]
  by_cases Fc:pr=17
  ·rw [aq Fc];try rw [aq Fc]
   exact UT hs' hd' hb (by omega)
  rw [av Fc];try rw [av Fc]
  by_cases h6:pr=6
  ·rw [aq h6];try rw [aq h6]
   exact UU hs' hd' hb (by omega)
  rw [av h6];try rw [av h6]
  by_cases h1:pr=1
  ·rw [aq h1];try rw [aq h1]
   exact Qg hb (by omega)
  rw [av h1];try rw [av h1]
  exact ⟨_,rfl,rfl,Nat.zero_le _⟩
 rw [av he];try rw [av he]
 exact ⟨_,rfl,rfl,Nat.zero_le _⟩
theorem OB {l:List Int} (h:gJ l) (hl:l.length<=3000):∀ a t pr i fl cr s d o b e_,bC.f 4000 l=some (a,t,pr,i,fl,cr,s,d,o,b,e_) ->∀ mt mc ms mr mb e,ek.f b=some (mt,mc,ms,mr,mb,e) ->gJ mb /\ mb.length<=100000:=by
 intro a t pr i fl cr s d o b e_ hp mt mc ms mr mb e hm;obtain ⟨a',t',pr',i',fl',of',s',d',o',b',e',hi,_,_,_,_,_,_,_,_,_,_,_,hb,UW⟩:=AE h;rw [oP h (by omega) 4000 (by omega),hi,Option.some.injEq] at hp
 obtain rfl:b'=b:=congrArg (fun x=>x.2.2.2.2.2.2.2.2.2.1) hp;obtain ⟨mt',mc',ms',mr',mb',e2,hu,_,_,_,_,h5,h6⟩:=C0 hb;rw [fM.oP hb (by omega),hu,Option.some.injEq] at hm
 obtain rfl:mb'=mb:=congrArg (fun x=>x.2.2.2.2.1) hm;exact ⟨h5,by omega⟩
structure Sh (n:Nat) (r:LK):Prop where
 h:AF r.a r.t r.i r.fl r.cr r.s r.d r.o
 hb:gJ r.b
 hl:r.b.length<=n
 hp:U8 r.pr
 c:(r.pr=17 /\ ∃ us ud uc ub,udg r.b=(us,ud,uc,ub,0) /\ r.x= .udp us ud uc ub /\ r.qD=[]) \/ (r.pr=6 /\ ∃ ts td tq ta tf tw tc tu tJ tb,My r.b=(ts,td,tq,ta,tf,tw,tc,tu,tJ,tb,0) /\ r.x= .tcp ts td tq ta tf tw tc tu tJ tb /\ r.qD=[]) \/
  (r.pr=1 /\ ∃ mt mc ms mr mb,fM.Ii r.b=(mt,mc,ms,mr,mb,0) /\ r.x= .zg mt mc ms mr mb /\ ((sU mt mc=true /\ r.qD=[]) \/ (sU mt mc=false /\ ∃ p,wq mb=some p /\ r.qD=[p.1,p.2])))
theorem XH {l:List Int} (h:gJ l) (hl:l.length<=2000) {r:LK} (e:iQ.f 4000 l=some r) (h0:r.e=0):Sh l.length r:=by
 obtain ⟨a,t,pr,i,fl,cr,s,d,o,b,e_,hi,ha,ht,Qx,hii,hfl,UI,hs',hd',ho,ho4,AjG,hb,UW⟩:=AE h;have hk:AF a t i fl cr s d o:=⟨ha,ht,hii,hfl,UI,hs',hd',ho,ho4,AjG⟩
 unfold iQ.f at e
 rw [rW h (by omega) 4000 (by omega),hi,bD] at e
 dsimp only at e
 by_cases he:e_=0
 rotate_left
 ·rw [av he] at e;obtain rfl:=cN e;exact absurd h0 he
 rw [aq he] at e
 by_cases Fc:pr=17
 ·rw [aq Fc] at e
  obtain ⟨us,ud,uc,ub,e2,hu,h1,h2,h3,h4,h5⟩:=UM hb;unfold rR at e
  rw [F3 hb (by omega),hu,bD] at e
  dsimp only at e
  by_cases he2:e2=0
  ·rw [aq he2] at e
   obtain ⟨rt,hr,e⟩:=bR e
   cases rt with
   |false=>rw [av (by decide)] at e;obtain rfl:=cN e;exact absurd h0 (by decide)
   |true=>
    rw [aq rfl] at e
    obtain rfl:=cN e;exact ⟨hk,hb,UW,by unfold U8;dsimp only;omega,.inl ⟨rfl,us,ud,uc,ub,by rw [hu,he2],rfl,rfl⟩⟩
  rw [av he2] at e;obtain rfl:=cN e;exact absurd h0 he2
 rw [av Fc] at e
 by_cases h6:pr=6
 ·rw [aq h6] at e
  obtain ⟨ts,td,tq,ta,tf,tw,tc,tu,tJ,tb,e2,hu,h1,h2,h3,h4,h5,h6',h7,h8,h9,h10,Xz,IW,h13⟩:=Ou hb;unfold rS at e
  rw [FX hb (by omega),hu,bD] at e
  dsimp only at e
  by_cases he2:e2=0
  ·rw [aq he2] at e
   obtain ⟨rt,hr,e⟩:=bR e
   cases rt with
   |false=>rw [av (by decide)] at e;obtain rfl:=cN e;exact absurd h0 (by decide)
   |true=>
    rw [aq rfl] at e
    obtain rfl:=cN e;exact ⟨hk,hb,UW,by unfold U8;dsimp only;omega,.inr (.inl ⟨rfl,ts,td,tq,ta,tf,tw,tc,tu,tJ,tb,by rw [hu,he2],rfl,rfl⟩)⟩
  rw [av he2] at e;obtain rfl:=cN e;exact absurd h0 he2
 rw [av h6] at e
 by_cases h1:pr=1
 rotate_left
 ·rw [av h1] at e;obtain rfl:=cN e;exact absurd h0 (by decide)
 rw [aq h1] at e
 obtain ⟨mt,mc,ms,mr,mb,e2,hu,h1',h2,h3,h4,h5,h6'⟩:=C0 hb;unfold nH at e
 rw [fM.rW hb (by omega),hu,bD] at e
 dsimp only at e
 by_cases he2:e2=0
 rotate_left
 ·rw [av he2] at e;obtain rfl:=cN e;exact absurd h0 he2
 rw [aq he2] at e
 obtain ⟨rt,hr,e⟩:=bR e
 cases rt with
 |false=>rw [av (by decide)] at e;obtain rfl:=cN e;exact absurd h0 (by decide)
 |true=>
  rw [aq rfl,KX h5 (by omega) 4000 (by omega),bD] at e
  try dsimp only at e
  rw [Ov,bD] at e
  by_cases hc:sU mt mc=true
  ·rw [aq hc] at e
   obtain rfl:=cN e;exact ⟨hk,hb,UW,by unfold U8;dsimp only;omega,.inr (.inr ⟨rfl,mt,mc,ms,mr,mb,by rw [hu,he2],rfl,.inl ⟨hc,rfl⟩⟩)⟩
  rw [av hc] at e
  obtain ⟨er,her,e⟩:=bR e
  cases er with
  |false=>rw [av (by decide)] at e;obtain rfl:=cN e;exact absurd h0 (by decide)
  |true=>
   rw [aq rfl] at e
   cases hin:wq mb with
   |none=>
    rw [hin] at e
    dsimp only at e
    rw [av (by decide)] at e;obtain rfl:=cN e;exact absurd h0 (by decide)
   |some p=>
    rw [hin] at e
    dsimp only at e
    rw [aq rfl] at e
    obtain rfl:=cN e;exact ⟨hk,hb,UW,by unfold U8;dsimp only;omega,.inr (.inr ⟨rfl,mt,mc,ms,mr,mb,by rw [hu,he2],rfl,.inr ⟨Bool.eq_false_iff.2 hc,p,hin,rfl⟩⟩)⟩
section
variable {a t pr i fl cr s d si sp di dp:Int} {o b:List Int}
theorem XI (h:AF a t i fl cr s d o) (hp:U8 pr) (hs:uJ si) (hd:uJ di) {y:List Int} (hl:y.length<=2500):eO.f 4000 a t pr i fl cr si di o y=some (cQ a t pr i fl cr si di o y,0) /\ aI.f 4000 a t pr i fl cr si di o y=some (cQ a t pr i fl cr si di o y,0):=by
 have wG:=h.wG;have e:=KT (a:=a) (t:=t) (pr:=pr) (i:=i) (s:=si) (d:=di) h.hf.2 h.hg.2 h.h4 h.wG (l:=y) (by omega);exact ⟨(yg h.ha h.ht hp h.hf.1 h.hg.1 h.ho (by omega) (by omega) 4000 (by omega)).trans (congrArg some e),(lQ h.ha h.ht hp h.hf.1 h.hg.1 h.ho (by omega) (by omega) 4000 (by omega)).trans (congrArg some e)⟩
end
theorem AdW {r:LK} (h:AF r.a r.t r.i r.fl r.cr r.s r.d r.o) (hp:U8 r.pr) {si di:Int} (hs:uJ si) (hd:uJ di) {y:List Int} (hl:y.length<=2500):Ow 4000 r si di y=some (cQ r.a r.t r.pr r.i r.fl r.cr si di r.o y,0):=by
 unfold Ow;rw [(XI h hp hs hd hl).2,bD]
end Go.Proofs.Ytkmimamminddiaa.Pure
namespace Go.Proofs.Ytkmimamminddiaa.PB
open Go.RowKit Go.Proofs.ah.bT Go.Proofs.ah.cY Go.Proofs.ah.iw
def MO (k:Nat):List Int ->Nat ->Int ->List Int ->Option (Int×List Int)
 |[],_,s,x=>some (s,x)
 |v::vs,j,s,x=>(aT.f x ((12+2*j:Nat):Int)).bind fun t=>(ld.f k s t v).bind fun s'=>MO k vs (j+1) s' (ig x (12+2*j) v)
def KZ (p:Int) (x:List Int) (h:Nat) (sp dp:Int):List Int:=if p=1 then ig x (h+4) sp else ig (ig x h sp) (h+2) dp
def XJ (k:Nat) (r:LK) (mt mc ms mr:Int) (x:List Int):Option (List Int×Int):=
 (fE.f k mt mc ms mr x).bind fun c=>(bG.f mt mc c mr x).bind fun y=>Ow k r r.s r.d y.1
def Qi (k:Nat) (r:LK) (si sp di dp mt mc ms mr:Int) (mb:List Int) (p:Int) (h:Nat):Option (List Int×Int):=
 (aT.f mb 10).bind fun s0=>(MO k (wI si di) 0 s0 mb).bind fun q=>XJ k r mt mc ms mr (KZ p (ig q.2 10 q.1) h sp dp)
def wA (k:Nat) (r:LK) (si sp di dp:Int):Option (List Int×Int):=
 if r.e=0 then (if r.qD.length=0 then some ([],21) else (ek.f r.b).bind fun ⟨mt,mc,ms,mr,mb,e⟩=>
  if (nw mb).2.2.1=1 then (if sp=dp then Qi k r si sp di dp mt mc ms mr mb (nw mb).2.2.1 (nw mb).2.2.2.1.toNat else some ([],21)) else Qi k r si sp di dp mt mc ms mr mb (nw mb).2.2.1 (nw mb).2.2.2.1.toNat) else some ([],r.e)
section
variable {w0 w:World} {g n c:Nat} {xs:List Int}
theorem OC (hR:aa (Kd.R (Kd.int .u8) 5 w w0.heap.size (fun _=>True) (.slice (some ⟨g,0,none⟩) n c) xs)) (i r:Int) (h:aT.f xs i=some r):Calls Try.prog 64 #[.slice (some ⟨g,0,none⟩) n c,.int .i64 i] w fun e w'=>e= .returned (.int .u16 r) /\ bB w w':=by
 have hl:=tV hR;have h2:=aT.calls (some ⟨g,0,none⟩) c xs i r w (Kd.ay hR.out).2.2 (by rw [hl];exact (Kd.ay hR.out).2.1) h
 rwa [hl] at h2
structure AdX (w0 W w1:World) (g n c:Nat) (xs:List Int):Prop where
 row:aa (Kd.R (Kd.int .u8) 5 w1 w0.heap.size (fun _=>True) (.slice (some ⟨g,0,none⟩) n c) xs)
 K9:aa (Below w0.heap.size w0 w1)
 keep:Zc W w1
 off:j7 W w1 g
variable {P:Program} {ops:Array Oper} {oi o:Oper} {rest:List Oper} {a:Act} {W:World} {K:Act ->World ->Prop} {Q:Exit ->Act ->World ->Prop}
theorem OD (hR:aa (Kd.R (Kd.int .u8) 5 W w0.heap.size (fun _=>True) (.slice (some ⟨g,0,none⟩) n c) xs)) (hB:aa (Below w0.heap.size w0 W)) (j:Nat) (v:Int) (hj:j<n):AdX w0 W (W.setCell ⟨g,j,none⟩ (.int .u8 v)) g n c (xs.set j v):=by
 have hl:=tV hR;obtain ⟨g',cap,hv,hb,_,cells,hc⟩:=Kd.ue hR.out (by omega)
 obtain ⟨rfl,_,_⟩:g=g' /\ n=xs.length /\ c=cap:=by injection hv with h1 h2 h3;injection h1 with h1;injection h1 with h1;exact ⟨h1,h2,h3⟩
 have ho:=j7.setCell W g j (.int .u8 v);have h:=Kd.Dd hR.out (j:Int) v;rw [Int.toNat_natCast] at h
 exact ⟨⟨h⟩,⟨j7.below ho hB.out hb⟩,fun g' t' cs f ht hx=>j7.blk ho hx hc ht,ho⟩
theorem C3 (hR:aa (Kd.R (Kd.int .u8) 5 W w0.heap.size (fun _=>True) (.slice (some ⟨g,0,none⟩) n c) xs)) (j:Nat) (hj:j<n):W.cell? ⟨g,j,none⟩=some (.int .u8 (rd xs (j:Int))) /\ W.frozen? ⟨g,j,none⟩=false:=by
 have h:=Kd.lg (0:Int) hR.out (j:Int) (by omega) (by omega);rw [Int.toNat_natCast] at h
 exact h
theorem pF (hw:Region.wanted oi (yielded ops a.tmps)=true) (hN:oi.dst=none) (hR:aa (Kd.R (Kd.int .u8) 5 W w0.heap.size (fun _=>True) (.slice (some ⟨g,0,none⟩) n c) xs)) (hB:aa (Below w0.heap.size w0 W)) (j:Nat) (v:Int) (hj:j<n) (hrun:W.cell? ⟨g,j,none⟩=some (.int .u8 (rd xs (j:Int))) ->W.frozen? ⟨g,j,none⟩=false ->(execOp a.eval oi).run P W= .ok .skip (W.setCell ⟨g,j,none⟩ (.int .u8 v)))
  (h:∀ w1,AdX w0 W w1 g n c (xs.set j v) ->K a w1):if Region.wanted oi (yielded ops a.tmps)=true then Oper.wp P oi a W K Q else K (a.put none undef) W:=
 wB hw hN (hrun (C3 hR j hj).1 (C3 hR j hj).2) (h _ (OD hR hB j v hj))
theorem C4 (hgd:o.guard=none) (hd:o.dst=none) (hR:aa (Kd.R (Kd.int .u8) 5 W w0.heap.size (fun _=>True) (.slice (some ⟨g,0,none⟩) n c) xs)) (hB:aa (Below w0.heap.size w0 W)) (j:Nat) (v:Int) (hj:j<n) (hrun:W.cell? ⟨g,j,none⟩=some (.int .u8 (rd xs (j:Int))) ->W.frozen? ⟨g,j,none⟩=false ->(execOp a.eval o).run P W= .ok .skip (W.setCell ⟨g,j,none⟩ (.int .u8 v)))
  (h:∀ w1,AdX w0 W w1 g n c (xs.set j v) ->wpList P ops Q rest a w1):wpList P ops Q (o::rest) a W:=
 lX hgd hd (hrun (C3 hR j hj).1 (C3 hR j hj).2) (h _ (OD hR hB j v hj))
end
theorem UX {w w1:World} {b j:Nat} {o:Obj} {v:Value} (hx:aa (w.heap[b]?=some o)) (hy:aa (w1.heap[b]?=some o)) (h:aa (w.cell? ⟨b,j,none⟩=some v)):aa (w1.cell? ⟨b,j,none⟩=some v):=⟨by
 have e:=h.out;simp only [World.cell?,hx.out] at e
 simp only [World.cell?,hy.out]
 exact e⟩
theorem OE {w w1:World} {a:Addr} {v:Value} (h:aa (w.cell? a=some v)) (hb:Below w.heap.size w w1):aa (w1.cell? a=some v):=⟨(hb.cell (dF w _ h.out)).trans h.out⟩
theorem XK {w0 w:World} {g n c:Nat} {b:List Int} (hR:aa (Kd.R (Kd.int .u8) 5 w w0.heap.size (fun _=>True) (.slice (some ⟨g,0,none⟩) n c) b)) (hB:Go.Proofs.Ytkmimamminddiaa.Spec.gJ b) (hn:b.length<=100000):
  Calls Try.prog 91 #[.slice (some ⟨g,0,none⟩) n c] w fun e w'=>e= .returned (.tuple #[.agg #[.int .u32 (nw b).1.f0,.int .u16 (nw b).1.f1],.agg #[.int .u32 (nw b).2.1.f0,.int .u16 (nw b).2.1.f1],.int .u8 (nw b).2.2.1,.int .i64 (nw b).2.2.2.1,.bool (nw b).2.2.2.2]) /\ Below w.heap.size w w':=by
 have hl:=tV hR;have h2:=wu.calls (some ⟨g,0,none⟩) c b w hB hn (Kd.ay hR.out).2.2 (by rw [hl];exact (Kd.ay hR.out).2.1)
 rwa [hl] at h2
def om.Ce.T:Bool×List (List Nat×List Nat):=(true,[([],[]),([],[]),([],[]),([2],[2]),([3],[3]),([1,4],[1,4]),([],[]),([],[]),([6,7],[6,7]),([8],[8]),([0,5,9,5],[0,5,9]),([10,10,0,1,2,3,4,5,6,7,8,9,10],[0,10])])
theorem om.Ce.tab:gB .any (opsOf Try.f43 16)=om.Ce.T:=by kernel_rfl
theorem om.Ce.bits:cS om.Ce.T.2 [0,0,0,4,12,30,0,0,192,448,1023,2047]=true:=by kernel_rfl
def om.UO.T:Bool×List (List Nat×List Nat):=(true,[([],[]),([],[]),([1],[1]),([2],[2]),([],[]),([],[]),([5],[5]),([6],[6]),([],[]),([],[]),([8,9],[8,9]),([10],[10]),([11],[11]),([12],[12]),([],[]),([],[]),([14,15],[14,15]),([16],[16]),([17],[17]),([0,3,0,1,2,3,8,9,10,11,12,13,17],[0,3]),([19,13,0,1,2,3,8,9,10,11,12,13,17],[13,19]),([4,7,0,1,2,3,4,5,6,7,8,9,10,11,12,13,14,15,16,17,18,19,20],[4,7]),([21,18,20,0,1,2,3,4,5,6,7,8,9,10,11,12,13,14,15,16,17,18,19,20],[18,21])])
theorem om.UO.tab:gB .any (opsOf Try.f43 17)=om.UO.T:=by kernel_rfl
theorem om.UO.bits:cS om.UO.T.2 [0,0,2,6,0,0,32,96,0,0,768,1792,3840,7936,0,0,49152,114688,245760,261903,786191,2097151,4194303]=true:=by kernel_rfl
def om.R20.T:Bool×List (List Nat×List Nat):=(true,[([],[]),([],[]),([1],[1]),([],[]),([],[]),([4],[4]),([],[]),([6],[6]),([7],[7]),([8],[8]),([],[]),([10],[10]),([11],[11]),([0,2,0,1,2,6,7,8,9],[0,2]),([13,9,0,1,2,6,7,8,9],[9,13]),([3,5,0,1,2,3,4,5,6,7,8,9,10,11,12,13,14],[3,5]),([15,12,14,0,1,2,3,4,5,6,7,8,9,10,11,12,13,14],[12,15])])
theorem om.R20.tab:gB .any (opsOf Try.f43 20)=om.R20.T:=by kernel_rfl
theorem om.R20.bits:cS om.R20.T.2 [0,0,2,0,0,16,0,64,192,448,0,1024,3072,967,9159,32767,65535]=true:=by kernel_rfl
def om.FL.T:Bool×List (List Nat×List Nat):=(true,[([],[]),([],[]),([],[]),([],[]),([3],[3]),([],[]),([5],[5]),([6],[6]),([7],[7]),([],[]),([9],[9]),([10],[10]),([0,1,0,1,5,6,7,8],[0,1]),([12,8,0,1,5,6,7,8],[8,12]),([2,4,0,1,2,3,4,5,6,7,8,9,10,11,12,13],[2,4]),([14,11,13,0,1,2,3,4,5,6,7,8,9,10,11,12,13],[11,14])])
theorem om.FL.tab:gB .any (opsOf Try.f43 21)=om.FL.T:=by kernel_rfl
theorem om.FL.bits:cS om.FL.T.2 [0,0,0,0,8,0,32,96,224,0,512,1536,483,4579,16383,32767]=true:=by kernel_rfl
def om.FP.T:Bool×List (List Nat×List Nat):=(true,[([],[]),([],[]),([1],[1]),([],[]),([],[]),([4],[4]),([],[]),([6],[6]),([7],[7]),([8],[8]),([],[]),([10],[10]),([11],[11]),([0,2,0,1,2,6,7,8,9],[0,2]),([13,9,0,1,2,6,7,8,9],[9,13]),([3,5,0,1,2,3,4,5,6,7,8,9,10,11,12,13,14],[3,5]),([15,12,14,0,1,2,3,4,5,6,7,8,9,10,11,12,13,14],[12,15])])
theorem om.FP.tab:gB .any (opsOf Try.f43 22)=om.FP.T:=by kernel_rfl
theorem om.FP.bits:cS om.FP.T.2 [0,0,2,0,0,16,0,64,192,448,0,1024,3072,967,9159,32767,65535]=true:=by kernel_rfl
theorem UY.via (k:Nat) (A:Option Addr) (c:Nat) (l:List Int) (r:LK) (si sp di dp:Int) (rb:List Int) (re:Int) (w:World) (hC:Kd.C (Kd.int .u8) w A l.length l) (hL:l.length<=c) (h66:∀ w2:World,Kd.C (Kd.int .u8) w2 A l.length l ->Calls Try.prog 66 #[.slice A l.length c] w2 fun e w'=>r.Told w2.heap.size w2 e w')
    (hg:r.e=0 ->¬ r.qD.length=0 ->∀ mt mc ms mr mb e,ek.f r.b=some (mt,mc,ms,mr,mb,e) ->Go.Proofs.Ytkmimamminddiaa.Spec.gJ mb /\ mb.length<=100000 /\ ∃ h:Nat,(nw mb).2.2.2.1=(h:Int) /\ 20<=h /\ h+8<=mb.length) (h:wA k r si sp di dp=some (rb,re)):
    Calls Try.prog 43 #[.slice A l.length c,.agg #[.int .u32 si,.int .u16 sp],.agg #[.int .u32 di,.int .u16 dp]] w fun e w'=>∃ v:Value,e= .returned (.tuple #[v,.int .i64 re]) /\ Kd.R (Kd.int .u8) 5 w' w.heap.size (fun _=>True) v rb /\ Below w.heap.size w w':=by
  have Aye:=Try.underlying23;have mM:=Try.underlying65;have iW:=Try.underlying73;have oA:=Try.underlying101;have nO:=Try.underlying124;obtain ⟨a,t,pr,i,fl,cr,s,d,o,b,x,sp_,dp_,ff,qD,e_⟩:=r;have HB:=gI w;have HC:=aa.mk hC;have HL:=aa.mk hL;have H66:=aa.mk h66;have HF:=aa.mk h;have HGG:=aa.mk hg;have iM:aa ((Try.prog.info? 65).map (·.size)=some 2):=⟨by kernel_rfl⟩
  have eN:aa ((Try.prog.info? 73).map (·.size)=some 10):=⟨by kernel_rfl⟩
  have jD:aa ((Try.prog.info? 101).map (·.size)=some 5):=⟨by kernel_rfl⟩
  have iS:aa ((Try.prog.info? 124).map (·.size)=some 7):=⟨by kernel_rfl⟩
  clear hC hL h66 h hg
  go_enter Try.func43,Try.ntmps43
  go_upto_region 1 with (first|((with_reducible refine aA (N:=4) rfl ?_);refine aC ?fT (N:=4) ?iB (cs:= #[.int .u32 si,.int .u16 sp]) (t:=65) ?eY ?_;(case iB=>rfl);(case fT=>rfl);(case eY=>first|(go_simp;done)|(go_simp;rfl));intro gs bV w1 bw cB;have G2:=aa.mk (show w.heap.size<=gs by rw [bV];exact af HB.out);have cT:=aa.mk bw;have ai:=cB;replace HB:=mB HB ai;clear ai;clear bV bw cB)|((with_reducible refine aA (N:=5) rfl ?_);refine aC ?fT (N:=5) ?iB (cs:= #[.int .u32 di,.int .u16 dp]) (t:=65) ?eY ?_;(case iB=>rfl);(case fT=>rfl);(case eY=>first|(go_simp;done)|(go_simp;rfl));intro gd bV w2 bw cB;have Fb:=aa.mk (show w.heap.size<=gd by rw [bV];exact af HB.out);have cL:=aa.mk bw;have jA:aa (gs≠gd):=⟨by rw [bV];exact (cW cT).out⟩;have ai:=cB;replace HB:=mB HB ai;replace cT:=mX cT ai;clear ai;clear bV bw cB))
  go_wp2_with fail
  refine (H66.out _ (Kd.aW HC.out HB.out)).mono ?_;rintro ev w3 hpost;obtain ⟨v8,v9,vi,rfl,E3,ym,hi,hb⟩:=hpost;dsimp only at E3 ym hi
  have bL:=lO E3 HB;have bI:=lO ym HB;obtain ⟨Ao,co,rfl,_,_⟩:=Kd.cj E3;obtain ⟨Ab,cb,rfl,_,_⟩:=Kd.cj ym;obtain ⟨Ai,ci,rfl,_,_⟩:=Kd.cj hi;clear E3 ym hi;have ai:=hb;replace HB:=mB HB ai;replace cT:=mX cT ai;replace cL:=mX cL ai;clear ai;clear hb
  (try dsimp only)
  go_upto_region 2 with (first|((with_reducible refine aA (N:=8) rfl ?_);refine aC ?fT (N:=8) ?iB (cs:=jL) (t:=73) ?eY ?_;(case iB=>rfl);(case fT=>rfl);(case eY=>first|(go_simp;done)|(go_simp;rfl));intro gp bV w4 bw cB;have lV:=aa.mk (show w.heap.size<=gp by rw [bV];exact af HB.out);have aZ:=aa.mk bw;have ai:=cB;replace HB:=mB HB ai;replace cT:=mX cT ai;replace cL:=mX cL ai;replace bL:=mR bL ai;replace bI:=mR bI ai;clear ai;clear bV bw cB)|((with_reducible refine aA (N:=9) rfl ?_);refine aC ?fT (N:=9) ?iB (cs:=lN) (t:=124) ?eY ?_;(case iB=>rfl);(case fT=>rfl);(case eY=>first|(go_simp;done)|(go_simp;rfl));intro gf bV w5 bw cB;have mO:=aa.mk (show w.heap.size<=gf by rw [bV];exact af HB.out);have bS:=aa.mk bw;have ai:=cB;replace HB:=mB HB ai;replace cT:=mX cT ai;replace cL:=mX cL ai;replace bL:=mR bL ai;replace bI:=mR bI ai;replace aZ:=mX aZ ai;clear ai;clear bV bw cB)|((refine dh rfl rfl rfl rfl rfl aZ.out eN.out rfl (by simp [Value.oneCell']) ?_);intro w6 hs_ ag;replace cT:=oX ag cT aZ (by decide);replace cL:=oX ag cL aZ (by decide);replace bL:=oR ag bL aZ (by decide);replace bI:=oR ag bI aZ (by decide);replace bS:=oX ag bS aZ (by decide);replace HB:=oB ag HB lV;clear ag;replace aZ:=aa.mk hs_;clear hs_)|((refine dh rfl rfl rfl rfl rfl bS.out iS.out rfl (by simp [Value.oneCell']) ?_);intro w7 hs_ ag;replace cT:=oX ag cT bS (by decide);replace cL:=oX ag cL bS (by decide);replace bL:=oR ag bL bS (by decide);replace bI:=oR ag bI bS (by decide);replace aZ:=oX ag aZ bS (by decide);replace HB:=oB ag HB mO;clear ag;replace bS:=aa.mk hs_;clear hs_))
  have H:=HF.out;clear HF;unfold wA at H
  dsimp only at H
  by_cases ce:e_=0
  rotate_left
  · have Ad:(e_==0)=false:=fq ce
    have G1:(e_ !=0)=true:=bne_iff_ne.2 ce;rw [av ce] at H
    have AjH:=aa.mk ce;clear ce;obtain ⟨rfl,rfl⟩:=Prod.mk.inj (cN H);clear H
    (try dsimp only)
    go_wp2
    (try simp only [Exit.inBlock,Exit.then])
    go_ret2
    exact ⟨_,rfl,Kd.bX _ _ _ _ _,HB.out⟩
  have Ad:(e_==0)=true:=fF ce
  have G1:(e_ !=0)=false:=by rw [bne,Ad];rfl
  rw [aq ce] at H
  have AjH:=aa.mk ce;clear ce;have Th:=cz bS.out 6 rfl
  by_cases ni:qD.length=0
  · rw [aq ni] at H
    have Qv:((qD.length:Int)==0)=true:=fF (by omega);have Qw:(qD.length==0)=true:=fF (by omega);have ni3:(qD.length=0)=True:=eq_true (by omega);clear ni;obtain ⟨rfl,rfl⟩:=Prod.mk.inj (cN H);clear H
    (try dsimp only)
    go_wp2
    (try simp only [Exit.inBlock,Exit.then])
    go_ret2
    exact ⟨_,rfl,Kd.bX _ _ _ _ _,HB.out⟩
  rw [av ni] at H
  have Qv:((qD.length:Int)==0)=false:=fq (by omega);have Qw:(qD.length==0)=false:=fq (by omega);have ni3:(qD.length=0)=False:=eq_false (by omega);obtain ⟨⟨mt,mc,ms,mr,mb,me⟩,hp,H⟩:=bR H
  try dsimp only at H
  have HU:=aa.mk hp;clear hp;have HG:=aa.mk H;clear H;have HQ:=aa.mk (HGG.out AjH.out ni _ _ _ _ _ _ HU.out);clear ni HGG
  (try dsimp only)
  go_upto_region 6 with (fail)
  clear Qv Qw ni3 Th;clear bS;clear mO;have yl:=cz aZ.out 9 rfl
  go_wp2_with fail
  clear yl;refine (ek.calls Ab cb b mt mc ms mr mb me _ (Kd.ay bI.out).2.2 (Kd.ay bI.out).2.1 HU.out).mono ?_;rintro ev w8 ⟨v_,rfl,ho,hb⟩;obtain ⟨hB8,BN,h,jK,h20,hh⟩:=HQ.out;clear HQ HU;obtain ⟨g,q,rfl,hgl,_,_⟩:=Kd.ue ho (by omega);have QA:aa (∀ j_,(Value.slice Ao o.length co).ownBlock=some j_ ->j_≠g):=⟨fun j_ e_=>by have:=Le (Kd.Iz bL.out).choose_spec j_ e_;omega⟩
  clear hgl;have eB:=lO ho HB;clear ho;have ai:=hb;replace HB:=mB HB ai;replace cT:=mX cT ai;replace cL:=mX cL ai;replace bL:=mR bL ai;replace bI:=mR bI ai;replace aZ:=mX aZ ai;clear ai;clear hb;clear bI;have hq:=(Kd.ay eB.out).2.1;obtain ⟨x,hx⟩:∃ x,x=mb:=⟨_,rfl⟩
  obtain ⟨m,hm⟩:∃ m,m=mb.length:=⟨_,rfl⟩
  have HN:aa (20<=h /\ h+8<=m /\ m<=100000 /\ m<=q /\ mb.length=m):=⟨by omega⟩
  have HQ:aa ((nw mb).2.2.2.1=(h:Int)):=⟨jK⟩
  have Z7:=aa.mk hB8;have HMB:aa (mb.length<=100000):=⟨BN⟩
  rw [<- hm] at eB|-
  clear hq hm BN jK h20 hh hB8;clear hx x
  (try dsimp only)
  go_upto_region 7 with (((refine fc rfl rfl rfl rfl rfl jD.out rfl (by simp [Value.oneCell']) ?_);intro fU gV dg))
  revert fU gV dg;intro w9 gV dg;have cM:aa (w9.heap[w8.heap.size]?=some (.cells #[.int .u8 mt,.int .u8 mc,.int .u16 ms,.int .u32 mr,.slice (some ⟨g,0,none⟩) m q] 101 (0,0))):=⟨gV⟩
  have sW:=yY HB;have ai:=dg;replace HB:=mB HB ai;replace cT:=mX cT ai;replace cL:=mX cL ai;replace bL:=mR bL ai;replace aZ:=mX aZ ai;replace eB:=mR eB ai;clear ai;clear gV dg;generalize w8.heap.size=gu at cM sW|-
  have AdV:=cz cM.out 4 rfl
  go_wp2_with fail
  clear AdV;have AjI:=XK eB Z7.out HMB.out;refine AjI.mono ?_;clear AjI;rintro ev ku ⟨rfl,hb⟩;have ai:=hb;replace HB:=mB HB ai;replace cT:=mX cT ai;replace cL:=mX cL ai;replace bL:=mR bL ai;replace aZ:=mX aZ ai;replace eB:=mR eB ai;replace cM:=mX cM ai;clear ai;clear hb;have H:=HG.out;clear HG;rw [HQ.out,Int.toNat_natCast] at H
  rw [HQ.out];clear HQ;generalize (nw mb).1=p1_ at|-
  generalize (nw mb).2.1=p2_ at|-
  generalize (nw mb).2.2.2.2=p5_ at|-
  generalize (nw mb).2.2.1=p at H|-
  obtain ⟨p1a,p1b⟩:=p1_;obtain ⟨p2a,p2b⟩:=p2_
  dsimp only
  have HG:=aa.mk H;clear H Z7 HMB
  go_upto_region 9 with (first|((with_reducible refine aA (N:=14) rfl ?_);refine aC ?fT (N:=14) ?iB (cs:= #[.int .u32 0,.int .u16 0]) (t:=65) ?eY ?_;(case iB=>rfl);(case fT=>rfl);(case eY=>first|(go_simp;done)|(go_simp;rfl));intro gv bV sn bw cB;have AjJ:=aa.mk (show w.heap.size<=gv by rw [bV];exact af HB.out);have QB:=aa.mk bw;have MP:aa (gs≠gv):=⟨by rw [bV];exact (cW cT).out⟩;have MQ:aa (gd≠gv):=⟨by rw [bV];exact (cW cL).out⟩;have ai:=cB;replace HB:=mB HB ai;replace cT:=mX cT ai;replace cL:=mX cL ai;replace bL:=mR bL ai;replace aZ:=mX aZ ai;replace eB:=mR eB ai;replace cM:=mX cM ai;clear ai;clear bV bw cB)|((with_reducible refine aA (N:=15) rfl ?_);refine aC ?fT (N:=15) ?iB (cs:= #[.int .u32 0,.int .u16 0]) (t:=65) ?eY ?_;(case iB=>rfl);(case fT=>rfl);(case eY=>first|(go_simp;done)|(go_simp;rfl));intro gw bV nP bw cB;have AjK:=aa.mk (show w.heap.size<=gw by rw [bV];exact af HB.out);have XL:=aa.mk bw;have MR:aa (gs≠gw):=⟨by rw [bV];exact (cW cT).out⟩;have MS:aa (gd≠gw):=⟨by rw [bV];exact (cW cL).out⟩;have EP:aa (gv≠gw):=⟨by rw [bV];exact (cW QB).out⟩;have ai:=cB;replace HB:=mB HB ai;replace cT:=mX cT ai;replace cL:=mX cL ai;replace bL:=mR bL ai;replace aZ:=mX aZ ai;replace eB:=mR eB ai;replace cM:=mX cM ai;replace QB:=mX QB ai;clear ai;clear bV bw cB)|((refine dh rfl rfl rfl rfl rfl QB.out iM.out rfl (by simp [Value.oneCell']) ?_);intro yD hs_ ag;replace cT:=oN ag cT MP;replace cL:=oN ag cL MQ;replace bL:=oR ag bL QB (by decide);replace aZ:=oX ag aZ QB (by decide);replace eB:=oR ag eB QB (by decide);replace cM:=oX ag cM QB (by decide);replace XL:=oN ag XL (cg EP);replace HB:=oB ag HB AjJ;clear ag;replace QB:=aa.mk hs_;clear hs_)|((refine dh rfl rfl rfl rfl rfl XL.out iM.out rfl (by simp [Value.oneCell']) ?_);intro qY hs_ ag;replace cT:=oN ag cT MR;replace cL:=oN ag cL MS;replace bL:=oR ag bL XL (by decide);replace aZ:=oX ag aZ XL (by decide);replace eB:=oR ag eB XL (by decide);replace cM:=oX ag cM XL (by decide);replace QB:=oN ag QB EP;replace HB:=oB ag HB AjK;clear ag;replace XL:=aa.mk hs_;clear hs_))
  clear QB XL;clear AjJ AjK;have H:=HG.out;clear HG;have Cg:=cz cT.out 1 rfl;have J1:=cz cL.out 1 rfl;have h3:(p=1 /\ ¬ sp=dp) \/ (p=1 /\ sp=dp) \/ ¬ p=1:=by omega
  rcases h3 with ⟨cp,sq⟩|⟨cp,sq⟩|cp
  · have Zd:(p==1)=true:=fF cp;have cp2:(p !=1)=false:=(by rw [bne,Zd];rfl)
    have sq1:(sp==dp)=false:=fq sq;have sq2:(sp !=dp)=true:=bne_iff_ne.2 sq;rw [aq cp,av sq] at H
    clear cp sq;obtain ⟨rfl,rfl⟩:=Prod.mk.inj (cN H);clear H
    (try dsimp only)
    go_wp2
    (try simp only [Exit.inBlock,Exit.then])
    go_ret2
    exact ⟨_,rfl,Kd.bX _ _ _ _ _,HB.out⟩
  all_goals first
    |(have Zd:(p==1)=true:=fF cp;have cp2:(p !=1)=false:=(by rw [bne,Zd];rfl);have sq1:(sp==dp)=true:=fF sq;have sq2:(sp !=dp)=false:=(by rw [bne,sq1];rfl);rw [aq cp,aq sq] at H;have AY:=aa.mk cp;clear cp sq;have HG:=aa.mk H;clear H;(try dsimp only);go_upto_region 11 with (fail);clear Cg J1 sq1 sq2)
    |(have Zd:(p==1)=false:=fq cp;have cp2:(p !=1)=true:=bne_iff_ne.2 cp;rw [av cp] at H;have AY:=aa.mk cp;clear cp;have HG:=aa.mk H;clear H;(try dsimp only);go_upto_region 11 with (fail);clear Cg J1)
  all_goals
    have H:=HG.out;clear HG;unfold Qi at H
    obtain ⟨s0,hp,H⟩:=bR H
    try dsimp only at H
    have HS0:=aa.mk hp;clear hp;obtain ⟨⟨sF,xF⟩,hp,H⟩:=bR H
    try dsimp only at H
    have Hp:=aa.mk hp;clear hp;have HG:=aa.mk H;clear H
    (try dsimp only)
    go_wp2_with fail
    refine (OC eB 10 s0 HS0.out).mono ?_;rintro ev w_ ⟨rfl,⟨nd,rfl⟩⟩;have ai:=dS (Below.refl qY.heap.size qY) nd;replace HB:=mB HB ai;replace cT:=mX cT ai;replace cL:=mX cL ai;replace bL:=mR bL ai;replace aZ:=mX aZ ai;replace eB:=mR eB ai;replace cM:=mX cM ai;clear ai;generalize qY.drewN nd=BX at HB cT cL bL aZ eB cM|-
    (try dsimp only)
    clear HS0;have Tm:=cz cT.out 0 rfl;have Tn:=cz cL.out 0 rfl
    go_wp2_with ((with_reducible refine aA (N:=78) rfl ?_);refine Gm ?fT (cs:= #[.int .u16 (si / 65536 % 65536),.int .u16 (si % 65536),.int .u16 (di / 65536 % 65536),.int .u16 (di % 65536)]) (t:=45) (n:=4) ?eY ?_;(case fT=>rfl);(case eY=>first|(go_simp;done)|(go_simp;rfl));intro gl qJ J3 hgl Ak;have rL:=aa.mk J3;clear J3 hgl;have ai:=Ak;replace HB:=mB HB ai;replace cT:=mX cT ai;replace cL:=mX cL ai;replace bL:=mR bL ai;replace aZ:=mX aZ ai;replace eB:=mR eB ai;replace cM:=mX cM ai;clear ai;clear Ak)
    clear Tm Tn
    go_loopg [19,21] 4 (fun kq v19 v21 w'=>∃ (j:Nat) (x_:Int) (o_:List Int),v19= .int .u16 x_ /\ v21= .int .i64 (j:Int) /\ aa (kq+j=4) /\ aa (MO k ((wI si di).drop j) j x_ o_=some (sF,xF)) /\ aa (Kd.R (Kd.int .u8) 5 w' w.heap.size (fun _=>True) (.slice (some ⟨g,0,none⟩) m q) o_) /\ aa (Kd.R (Kd.int .u8) 5 w' w.heap.size (fun _=>True) (.slice Ao o.length co) o) /\ aa (w'.heap[gs]?=some (.cells #[.int .u32 si,.int .u16 sp] 65 (0,0))) /\ aa (w'.heap[gd]?=some (.cells #[.int .u32 di,.int .u16 dp] 65 (0,0))) /\ aa (w'.heap[gp]?=some (.cells #[.int .u8 a,.int .u8 t,.int .u8 pr,.int .u16 i,.int .u8 fl,.int .u16 cr,.int .u32 s,.int .u32 d,.slice Ao o.length co,.slice Ab b.length cb] 73 (0,0))) /\ aa (w'.heap[gu]?=some (.cells #[.int .u8 mt,.int .u8 mc,.int .u16 ms,.int .u32 mr,.slice (some ⟨g,0,none⟩) m q] 101 (0,0))) /\ aa (w'.heap[gl]?=some (.cells #[.int .u16 (si / 65536 % 65536),.int .u16 (si % 65536),.int .u16 (di / 65536 % 65536),.int .u16 (di % 65536)] 45 (0,0))) /\ aa (Below w.heap.size w w'))
    case atStart=>exact ⟨0,s0,mb,rfl,rfl,⟨rfl⟩,Hp,eB,bL,cT,cL,aZ,cM,rL,HB⟩
    clear eB bL cT cL aZ cM rL HB Hp;obtain ⟨j,x_,o_,rfl,rfl,HK,Hp,eB,bL,cT,cL,aZ,cM,rL,HB⟩:=hrel
    by_cases c6:j<4
    · obtain ⟨wv,hcell,J4⟩:∃ wv,wr.cell? ⟨gl,j,none⟩=some (.int .u16 wv) /\ (wI si di).drop j=wv::(wI si di).drop (j+1):=by
        have h4:j=0 \/ j=1 \/ j=2 \/ j=3:=by omega
        rcases h4 with rfl|rfl|rfl|rfl
        · exact ⟨_,(aN rL.out 0).trans rfl,rfl⟩
        · exact ⟨_,(aN rL.out 1).trans rfl,rfl⟩
        · exact ⟨_,(aN rL.out 2).trans rfl,rfl⟩
        · exact ⟨_,(aN rL.out 3).trans rfl,rfl⟩
      have DV:=Hp.out;clear Hp;rw [J4,MO] at DV
      obtain ⟨t_,ht,DV⟩:=bR DV;obtain ⟨xn,hxn,DV⟩:=bR DV;obtain ⟨J2,hJ2⟩:∃ J2,J2=2*j:=⟨_,rfl⟩
      obtain ⟨J,hJ⟩:∃ J,J=12+J2:=⟨_,rfl⟩
      rw [show 12+2*j=J from by omega] at ht DV
      have Hp:=aa.mk DV;have HT:=aa.mk ht;have HU:=aa.mk hxn;have BL:=aa.mk hcell;have HJ:aa (j<4 /\ J=12+2*j):=⟨by omega,by omega⟩
      have W2:aa (wrap64 (2*(j:Int))=(J2:Int)):=⟨by unfold wrap64;omega⟩
      have W12:aa (wrap64 (12+(J2:Int))=(J:Int)):=⟨by unfold wrap64;omega⟩
      have W13:aa (wrap64 (13+(J2:Int))=((J+1:Nat):Int)):=⟨by unfold wrap64;omega⟩
      have b0:decide ((j:Int)<4)=true:=bN (by omega);have b1:decide (j<4)=true:=bN c6;have b2:((4:Int)<=(j:Int))=False:=eq_false (by omega);have b3:(4<=j)=False:=eq_false (by omega);have b4:((j:Int)<4)=True:=eq_true (by omega);have b5:(j<4)=True:=eq_true c6;clear DV ht hxn J4 hJ hJ2 c6 hcell
      go_upto_region 16 with (fail)
      refine dB (n:=12) (S:=fun w'=>w'.cell? ⟨gl,j,none⟩=some (.int .u16 wv)) (ds:=[]) #[false,false,false,false,false,false,false,false,false,false,false,false] (by kernel_rfl) rfl rfl BL.out (fun hHeld=> ?_);refine bF om.Ce.tab om.Ce.bits (fun ax eu=> ?_);have ai:=bf (Below.refl wr.heap.size wr);replace HB:=mB HB ai;replace eB:=mR eB ai;replace bL:=mR bL ai;replace cT:=mX cT ai;replace cL:=mX cL ai;replace aZ:=mX aZ ai;replace cM:=mX cM ai;replace rL:=mX rL ai;replace BL:=OE BL ai;clear ai;generalize wr.drew=UZ at HB eB bL cT cL aZ cM rL BL hHeld|-
      refine pz 0 83 ax ?_;refine pz 1 84 ax ?_;refine pz 2 85 ax ?_;refine pv 3 86 (.int .i64 (J2:Int)) ax ?_ ?_
      · intro w'
        have z_:=W2.out
        first|(go_simp;done)|(go_simp;rfl)|(go_simp;rw [z_];rfl)|(go_simp;simp only [gK];exact z_)
      refine nz 86 ?_;refine pv 4 87 (.int .i64 (J:Int)) ax ?_ ?_
      · intro w'
        have z_:=W12.out
        first|(go_simp;done)|(go_simp;rfl)|(go_simp;rw [z_];rfl)|(go_simp;simp only [gK];exact z_)
      refine nz 87 ?_;refine pz 6 89 ax ?_;refine pz 7 90 ax ?_;refine pv 8 91 (.pointer (some ⟨gl,j,none⟩)) ax ?_ ?_
      · intro w'
        have Vg:(0<=(j:Int))=True:=eq_true (Int.natCast_nonneg _);have Fq:((⟨gl,0,none⟩:Addr).add (j:Int).toNat)=⟨gl,j,none⟩:=by rw [Int.toNat_natCast,ke,Nat.zero_add]
        have Fs:((⟨gl,0,none⟩:Addr).add j)=⟨gl,j,none⟩:=by rw [ke,Nat.zero_add]
        first|(go_simp;done)|(go_simp;rfl)|(go_simp;simp only [Fq,Fs])
      refine nz 91 ?_;refine tv 9 92 (.int .u16 wv) ax eu hHeld ?_ ?_
      · intro w' s0
        first|(go_simp;done)|(go_simp;with_reducible rfl)
      refine nz 92 ?_;refine oz 5 (some 88) ax (fun K hK=> ?_);refine i9 Try.func64 (by kernel_rfl) rfl #[.slice (some ⟨g,0,none⟩) m q,.int .i64 (J:Int)] (by rfl) rfl rfl (by first|rfl|(go_simp;done)|(go_simp;rfl)|(go_simp;decide)) ?_;refine (OC eB (J:Int) t_ HT.out).mono ?_;rintro ev w_ ⟨rfl,⟨nd,rfl⟩⟩;have ai:=dS (Below.refl UZ.heap.size UZ) nd;replace HB:=mB HB ai;replace eB:=mR eB ai;replace bL:=mR bL ai;replace cT:=mX cT ai;replace cL:=mX cL ai;replace aZ:=mX aZ ai;replace cM:=mX cM ai;replace rL:=mX rL ai;replace BL:=OE BL ai;clear ai;generalize UZ.drewN nd=ER at HB eB bL cT cL aZ cM rL BL|-
      (try dsimp only)
      refine ⟨_,rfl, ?_⟩;refine hK.out _ _ BL.out (fun hHeld=> ?_);clear hK K;refine nz 88 ?_;refine oz 10 (some 93) ax (fun K hK=> ?_);refine i9 Try.func92 (by kernel_rfl) rfl #[.int .u16 x_,.int .u16 t_,.int .u16 wv] (by rfl) rfl rfl (by first|rfl|(go_simp;done)|(go_simp;rfl)|(go_simp;decide)) ?_;refine (ld.calls k x_ t_ wv xn _ HU.out).mono ?_;rintro ev w_ ⟨rfl,⟨nd,rfl⟩⟩;have ai:=dS (Below.refl ER.heap.size ER) nd;replace HB:=mB HB ai;replace eB:=mR eB ai;replace bL:=mR bL ai;replace cT:=mX cT ai;replace cL:=mX cL ai;replace aZ:=mX aZ ai;replace cM:=mX cM ai;replace rL:=mX rL ai;replace BL:=OE BL ai;clear ai;generalize ER.drewN nd=U0 at HB eB bL cT cL aZ cM rL BL|-
      (try dsimp only)
      refine ⟨_,rfl, ?_⟩;refine hK.out _ _ BL.out (fun hHeld=> ?_);clear hK K;refine nz 93 ?_;refine pz 11 19 ax ?_;refine dz ax ?_;clear ax eu hHeld;clear HT HU
      (try dsimp only)
      go_upto_region 17 with (fail)
      obtain ⟨K1,hK1⟩:∃ K1,K1=J+1:=⟨_,rfl⟩
      have xR:=aa.mk hK1;rw [<- hK1] at W13
      clear hK1;refine dB (n:=23) (S:=fun w'=>w'.cell? ⟨gl,j,none⟩=some (.int .u16 wv)) (ds:=[]) #[false,false,false,false,false,false,false,false,false,false,false,false,false,false,false,false,false,false,false,false,false,false,false] (by kernel_rfl) rfl rfl BL.out (fun hHeld=> ?_);refine bF om.UO.tab om.UO.bits (fun ax eu=> ?_);have ai:=bf (Below.refl U0.heap.size U0);replace HB:=mB HB ai;replace eB:=mR eB ai;replace bL:=mR bL ai;replace cT:=mX cT ai;replace cL:=mX cL ai;replace aZ:=mX aZ ai;replace cM:=mX cM ai;replace rL:=mX rL ai;replace BL:=OE BL ai;clear ai;generalize U0.drew=AjL at HB eB bL cT cL aZ cM rL BL hHeld|-
      refine pz 0 94 ax ?_;refine pz 1 95 ax ?_;refine pv 2 96 (.int .i64 (J2:Int)) ax ?_ ?_
      · intro w'
        have z_:=W2.out
        first|(go_simp;done)|(go_simp;rfl)|(go_simp;rw [z_];rfl)|(go_simp;simp only [gK];exact z_)
      refine nz 96 ?_;refine pv 3 97 (.int .i64 (J:Int)) ax ?_ ?_
      · intro w'
        have z_:=W12.out
        first|(go_simp;done)|(go_simp;rfl)|(go_simp;rw [z_];rfl)|(go_simp;simp only [gK];exact z_)
      refine nz 97 ?_;refine pz 4 98 ax ?_;refine pz 5 99 ax ?_;refine pv 6 100 (.int .i64 (J2:Int)) ax ?_ ?_
      · intro w'
        have z_:=W2.out
        first|(go_simp;done)|(go_simp;rfl)|(go_simp;rw [z_];rfl)|(go_simp;simp only [gK];exact z_)
      refine nz 100 ?_;refine pv 7 101 (.int .i64 (K1:Int)) ax ?_ ?_
      · intro w'
        have z_:=W13.out
        first|(go_simp;done)|(go_simp;rfl)|(go_simp;rw [z_];rfl)|(go_simp;simp only [gK];exact z_)
      refine nz 101 ?_;refine pz 8 102 ax ?_;refine pz 9 103 ax ?_;refine pv 10 104 (.pointer (some ⟨gl,j,none⟩)) ax ?_ ?_
      · intro w'
        have Vg:(0<=(j:Int))=True:=eq_true (Int.natCast_nonneg _);have Fq:((⟨gl,0,none⟩:Addr).add (j:Int).toNat)=⟨gl,j,none⟩:=by rw [Int.toNat_natCast,ke,Nat.zero_add]
        have Fs:((⟨gl,0,none⟩:Addr).add j)=⟨gl,j,none⟩:=by rw [ke,Nat.zero_add]
        first|(go_simp;done)|(go_simp;rfl)|(go_simp;simp only [Fq,Fs])
      refine nz 104 ?_;refine pz 14 108 ax ?_;refine pz 15 109 ax ?_;refine pv 16 110 (.pointer (some ⟨gl,j,none⟩)) ax ?_ ?_
      · intro w'
        have Vg:(0<=(j:Int))=True:=eq_true (Int.natCast_nonneg _);have Fq:((⟨gl,0,none⟩:Addr).add (j:Int).toNat)=⟨gl,j,none⟩:=by rw [Int.toNat_natCast,ke,Nat.zero_add]
        have Fs:((⟨gl,0,none⟩:Addr).add j)=⟨gl,j,none⟩:=by rw [ke,Nat.zero_add]
        first|(go_simp;done)|(go_simp;rfl)|(go_simp;simp only [Fq,Fs])
      refine nz 110 ?_;refine tv 11 105 (.int .u16 wv) ax eu hHeld ?_ ?_
      · intro w' s0
        first|(go_simp;done)|(go_simp;with_reducible rfl)
      refine nz 105 ?_;refine pz 12 106 ax ?_;refine pz 13 107 ax ?_;refine tv 17 111 (.int .u16 wv) ax eu hHeld ?_ ?_
      · intro w' s0
        first|(go_simp;done)|(go_simp;with_reducible rfl)
      refine nz 111 ?_;refine pz 18 112 ax ?_;refine pv 19 113 (.pointer (some ⟨g,J,none⟩)) ax ?_ ?_
      · intro w'
        have Vg:(0<=(J:Int))=True:=eq_true (by omega);have z3_:((J:Int)<(m:Int))=True:=eq_true (by have:=HN.out;have:=HJ.out;omega);have z4_:(J<m)=True:=eq_true (by have:=HN.out;have:=HJ.out;omega);have Fq:((⟨g,0,none⟩:Addr).add (J:Int).toNat)=⟨g,J,none⟩:=by rw [show (J:Int).toNat=J from by omega,ke,Nat.zero_add]
        have Fs:((⟨g,0,none⟩:Addr).add (J))=⟨g,J,none⟩:=by rw [ke,Nat.zero_add]
        first|(go_simp;done)|(go_simp;rfl)|(go_simp;simp only [Fq,Fs])
      refine nz 113 ?_;refine oz 20 (none) ax (fun K hK=> ?_);refine pF (by rfl) (by rfl) eB HB (J) (wv / 256 % 256) (by have:=HN.out;have:=HJ.out;omega) (fun m_ pU=>by first|(go_simp;done)|(go_simp;rfl)) ?_;intro MT jC;replace BL:=UX rL (aa.mk (jC.keep _ _ _ _ (by decide) rL.out)) BL;replace eB:=jC.row;replace HB:=jC.K9;replace bL:=aa.mk (jC.off.Qo bL.out QA.out);replace cT:=aa.mk (jC.keep _ _ _ _ (by decide) cT.out);replace cL:=aa.mk (jC.keep _ _ _ _ (by decide) cL.out);replace aZ:=aa.mk (jC.keep _ _ _ _ (by decide) aZ.out);replace cM:=aa.mk (jC.keep _ _ _ _ (by decide) cM.out);replace rL:=aa.mk (jC.keep _ _ _ _ (by decide) rL.out);clear jC;refine hK.out _ _ BL.out (fun hHeld=> ?_);clear hK K;refine pv 21 114 (.pointer (some ⟨g,K1,none⟩)) ax ?_ ?_
      · intro w'
        have Vg:(0<=(K1:Int))=True:=eq_true (by omega);have z3_:((K1:Int)<(m:Int))=True:=eq_true (by have:=HN.out;have:=HJ.out;have:=xR.out;omega);have z4_:(K1<m)=True:=eq_true (by have:=HN.out;have:=HJ.out;have:=xR.out;omega);have Fq:((⟨g,0,none⟩:Addr).add (K1:Int).toNat)=⟨g,K1,none⟩:=by rw [show (K1:Int).toNat=K1 from by omega,ke,Nat.zero_add]
        have Fs:((⟨g,0,none⟩:Addr).add (K1))=⟨g,K1,none⟩:=by rw [ke,Nat.zero_add]
        first|(go_simp;done)|(go_simp;rfl)|(go_simp;simp only [Fq,Fs])
      refine nz 114 ?_;refine oz 22 (none) ax (fun K hK=> ?_);refine pF (by rfl) (by rfl) eB HB (K1) (wv % 256) (by have:=HN.out;have:=HJ.out;have:=xR.out;omega) (fun m_ pU=>by first|(go_simp;done)|(go_simp;rfl)) ?_;intro AjM jC;replace BL:=UX rL (aa.mk (jC.keep _ _ _ _ (by decide) rL.out)) BL;replace eB:=jC.row;replace HB:=jC.K9;replace bL:=aa.mk (jC.off.Qo bL.out QA.out);replace cT:=aa.mk (jC.keep _ _ _ _ (by decide) cT.out);replace cL:=aa.mk (jC.keep _ _ _ _ (by decide) cL.out);replace aZ:=aa.mk (jC.keep _ _ _ _ (by decide) aZ.out);replace cM:=aa.mk (jC.keep _ _ _ _ (by decide) cM.out);replace rL:=aa.mk (jC.keep _ _ _ _ (by decide) rL.out);clear jC;refine hK.out _ _ BL.out (fun hHeld=> ?_);clear hK K;refine dz ax ?_;clear ax eu hHeld
      clear W2 W12 W13 BL b0 b1 b2 b3 b4 b5;have U1:=eB.out;rw [xR.out] at U1
      clear eB xR;have eB:aa (Kd.R (Kd.int .u8) 5 AjM w.heap.size (fun _=>True) (.slice (some ⟨g,0,none⟩) m q) (ig o_ J wv)):=⟨U1⟩
      clear U1;have w7:wrap64 ((j:Int)+1)=((j+1:Nat):Int):=by have:=HJ.out;unfold wrap64;omega
      (try dsimp only)
      go_wp2
      go_roundg (gk - 1)
      case measure=>clear w7;have:=HK.out;have:=HJ.out;omega
      case rel=>exact ⟨j+1,xn,ig o_ J wv,by first|rfl|(simp [w7];done),by first|rfl|(simp [w7];done)|(simp only [w7];rfl),⟨by clear w7;have:=HK.out;have:=HJ.out;omega⟩,Hp,eB,bL,cT,cL,aZ,cM,rL,HB⟩
    obtain rfl:j=4:=by have:=HK.out;omega
    have DV:=Hp.out;clear Hp
    have hF:sF=x_ /\ xF=o_:=by
      have h:some (x_,o_)=some (sF,xF):=DV;simp only [Option.some.injEq,Prod.mk.injEq] at h
      exact ⟨h.1.symm,h.2.symm⟩
    obtain ⟨rfl,rfl⟩:=hF;clear DV c6;clear rL;have Qj:(10<m)=True:=eq_true (by have:=HN.out;omega);have AjN:((10:Int)<(m:Int))=True:=eq_true (by have:=HN.out;omega);have U2:(11<m)=True:=eq_true (by have:=HN.out;omega);have AjO:((11:Int)<(m:Int))=True:=eq_true (by have:=HN.out;omega)
    (try dsimp only)
    first
      | (go_upto_region 20 with (first|((refine C4 rfl rfl eB HB (10) (sF / 256 % 256) (by have:=HN.out;omega) ?eY ?_);(case eY=>intro m_ pU;first|(go_simp;done)|(go_simp;rfl));intro UZ jC;replace eB:=jC.row;replace HB:=jC.K9;replace bL:=aa.mk (jC.off.Qo bL.out QA.out);replace cT:=aa.mk (jC.keep _ _ _ _ (by decide) cT.out);replace cL:=aa.mk (jC.keep _ _ _ _ (by decide) cL.out);replace aZ:=aa.mk (jC.keep _ _ _ _ (by decide) aZ.out);replace cM:=aa.mk (jC.keep _ _ _ _ (by decide) cM.out);clear jC)|((refine C4 rfl rfl eB HB (11) (sF % 256) (by have:=HN.out;omega) ?eY ?_);(case eY=>intro m_ pU;first|(go_simp;done)|(go_simp;rfl));intro ER jC;replace eB:=jC.row;replace HB:=jC.K9;replace bL:=aa.mk (jC.off.Qo bL.out QA.out);replace cT:=aa.mk (jC.keep _ _ _ _ (by decide) cT.out);replace cL:=aa.mk (jC.keep _ _ _ _ (by decide) cL.out);replace aZ:=aa.mk (jC.keep _ _ _ _ (by decide) aZ.out);replace cM:=aa.mk (jC.keep _ _ _ _ (by decide) cM.out);clear jC))
         clear Qj AjN U2 AjO;obtain ⟨L4,hL4⟩:∃ L4,L4=h+4:=⟨_,rfl⟩
         have HL4:=aa.mk hL4;have WL4:aa (wrap64 ((h:Int)+4)=(L4:Int)):=⟨by have:=HN.out;unfold wrap64;omega⟩
         clear hL4;obtain ⟨L5,hL5⟩:∃ L5,L5=h+5:=⟨_,rfl⟩
         have HL5:=aa.mk hL5;have WL5:aa (wrap64 ((h:Int)+5)=(L5:Int)):=⟨by have:=HN.out;unfold wrap64;omega⟩
         clear hL5
         go_upto_region 20 with (fail)
         refine dB (n:=17) (S:=fun w'=>w'.cell? ⟨gs,1,none⟩=some (.int .u16 sp)) (ds:=[]) #[false,false,false,false,false,false,false,false,false,false,false,false,false,false,false,false,false] (by kernel_rfl) rfl rfl ((aN cT.out 1).trans rfl) (fun hHeld=> ?_);refine bF om.R20.tab om.R20.bits (fun ax eu=> ?_);have ai:=bf (Below.refl ER.heap.size ER);replace HB:=mB HB ai;replace eB:=mR eB ai;replace bL:=mR bL ai;replace cT:=mX cT ai;replace cL:=mX cL ai;replace aZ:=mX aZ ai;replace cM:=mX cM ai;clear ai;generalize ER.drew=U0 at HB eB bL cT cL aZ cM hHeld|-
         refine pz 0 126 ax ?_;refine pz 1 127 ax ?_;refine pv 2 128 (.int .i64 (L4:Int)) ax ?_ ?_
         · intro w'
           have z_:=WL4.out
           first|(go_simp;done)|(go_simp;rfl)|(go_simp;rw [z_];rfl)|(go_simp;simp only [gK];exact z_)
         refine nz 128 ?_;refine pz 3 129 ax ?_;refine pz 4 130 ax ?_;refine pv 5 131 (.int .i64 (L5:Int)) ax ?_ ?_
         · intro w'
           have z_:=WL5.out
           first|(go_simp;done)|(go_simp;rfl)|(go_simp;rw [z_];rfl)|(go_simp;simp only [gK];exact z_)
         refine nz 131 ?_;refine pz 6 132 ax ?_;refine pz 10 136 ax ?_;refine tv 7 133 (.int .u16 sp) ax eu hHeld ?_ ?_
         · intro w' s0
           have Za:=s0
           first|(go_simp;done)|(go_simp;with_reducible rfl)
         refine nz 133 ?_;refine pz 8 134 ax ?_;refine pz 9 135 ax ?_;refine pv 13 139 (.pointer (some ⟨g,L4,none⟩)) ax ?_ ?_
         · intro w'
           have Vg:(0<=(L4:Int))=True:=eq_true (by omega);have z3_:((L4:Int)<(m:Int))=True:=eq_true (by have:=HN.out;have:=HL4.out;omega);have z4_:(L4<m)=True:=eq_true (by have:=HN.out;have:=HL4.out;omega);have Fq:((⟨g,0,none⟩:Addr).add (L4:Int).toNat)=⟨g,L4,none⟩:=by rw [show (L4:Int).toNat=L4 from by omega,ke,Nat.zero_add]
           have Fs:((⟨g,0,none⟩:Addr).add (L4))=⟨g,L4,none⟩:=by rw [ke,Nat.zero_add]
           first|(go_simp;done)|(go_simp;rfl)|(go_simp;simp only [Fq,Fs])
         refine nz 139 ?_;refine tv 11 137 (.int .u16 sp) ax eu hHeld ?_ ?_
         · intro w' s0
           have Za:=s0
           first|(go_simp;done)|(go_simp;with_reducible rfl)
         refine nz 137 ?_;refine pz 12 138 ax ?_;refine oz 14 (none) ax (fun K hK=> ?_);refine pF (by rfl) (by rfl) eB HB (L4) (sp / 256 % 256) (by have:=HN.out;have:=HL4.out;omega) (fun m_ pU=>by first|(go_simp;done)|(go_simp;rfl)) ?_;intro AjL jC;replace eB:=jC.row;replace HB:=jC.K9;replace bL:=aa.mk (jC.off.Qo bL.out QA.out);replace cT:=aa.mk (jC.keep _ _ _ _ (by decide) cT.out);replace cL:=aa.mk (jC.keep _ _ _ _ (by decide) cL.out);replace aZ:=aa.mk (jC.keep _ _ _ _ (by decide) aZ.out);replace cM:=aa.mk (jC.keep _ _ _ _ (by decide) cM.out);clear jC;refine hK.out _ _ ((aN cT.out 1).trans rfl) (fun hHeld=> ?_);clear hK K;refine pv 15 140 (.pointer (some ⟨g,L5,none⟩)) ax ?_ ?_
         · intro w'
           have Vg:(0<=(L5:Int))=True:=eq_true (by omega);have z3_:((L5:Int)<(m:Int))=True:=eq_true (by have:=HN.out;have:=HL5.out;omega);have z4_:(L5<m)=True:=eq_true (by have:=HN.out;have:=HL5.out;omega);have Fq:((⟨g,0,none⟩:Addr).add (L5:Int).toNat)=⟨g,L5,none⟩:=by rw [show (L5:Int).toNat=L5 from by omega,ke,Nat.zero_add]
           have Fs:((⟨g,0,none⟩:Addr).add (L5))=⟨g,L5,none⟩:=by rw [ke,Nat.zero_add]
           first|(go_simp;done)|(go_simp;rfl)|(go_simp;simp only [Fq,Fs])
         refine nz 140 ?_;refine oz 16 (none) ax (fun K hK=> ?_);refine pF (by rfl) (by rfl) eB HB (L5) (sp % 256) (by have:=HN.out;have:=HL5.out;omega) (fun m_ pU=>by first|(go_simp;done)|(go_simp;rfl)) ?_;intro MT jC;replace eB:=jC.row;replace HB:=jC.K9;replace bL:=aa.mk (jC.off.Qo bL.out QA.out);replace cT:=aa.mk (jC.keep _ _ _ _ (by decide) cT.out);replace cL:=aa.mk (jC.keep _ _ _ _ (by decide) cL.out);replace aZ:=aa.mk (jC.keep _ _ _ _ (by decide) aZ.out);replace cM:=aa.mk (jC.keep _ _ _ _ (by decide) cM.out);clear jC;refine hK.out _ _ ((aN cT.out 1).trans rfl) (fun hHeld=> ?_);clear hK K;refine dz ax ?_;clear ax eu hHeld;clear WL4 WL5
         (try dsimp only)
         have U1:=eB.out;rw [HL5.out,HL4.out] at U1
         clear eB;have eB:aa (Kd.R (Kd.int .u8) 5 MT w.heap.size (fun _=>True) (.slice (some ⟨g,0,none⟩) m q) (KZ p (ig xF 10 sF) h sp dp)):=⟨by rw [KZ,aq AY.out];exact U1⟩
         clear U1 cT cL
         generalize MT=wz at HB eB bL aZ cM|-)
      | (go_upto_region 21 with (first|((refine C4 rfl rfl eB HB (10) (sF / 256 % 256) (by have:=HN.out;omega) ?eY ?_);(case eY=>intro m_ pU;first|(go_simp;done)|(go_simp;rfl));intro UZ jC;replace eB:=jC.row;replace HB:=jC.K9;replace bL:=aa.mk (jC.off.Qo bL.out QA.out);replace cT:=aa.mk (jC.keep _ _ _ _ (by decide) cT.out);replace cL:=aa.mk (jC.keep _ _ _ _ (by decide) cL.out);replace aZ:=aa.mk (jC.keep _ _ _ _ (by decide) aZ.out);replace cM:=aa.mk (jC.keep _ _ _ _ (by decide) cM.out);clear jC)|((refine C4 rfl rfl eB HB (11) (sF % 256) (by have:=HN.out;omega) ?eY ?_);(case eY=>intro m_ pU;first|(go_simp;done)|(go_simp;rfl));intro ER jC;replace eB:=jC.row;replace HB:=jC.K9;replace bL:=aa.mk (jC.off.Qo bL.out QA.out);replace cT:=aa.mk (jC.keep _ _ _ _ (by decide) cT.out);replace cL:=aa.mk (jC.keep _ _ _ _ (by decide) cL.out);replace aZ:=aa.mk (jC.keep _ _ _ _ (by decide) aZ.out);replace cM:=aa.mk (jC.keep _ _ _ _ (by decide) cM.out);clear jC))
         clear Qj AjN U2 AjO;obtain ⟨L1,hL1⟩:∃ L1,L1=h+1:=⟨_,rfl⟩
         have HL1:=aa.mk hL1;have WL1:aa (wrap64 ((h:Int)+1)=(L1:Int)):=⟨by have:=HN.out;unfold wrap64;omega⟩
         clear hL1
         go_upto_region 21 with (fail)
         refine dB (n:=16) (S:=fun w'=>w'.cell? ⟨gs,1,none⟩=some (.int .u16 sp)) (ds:=[]) #[false,false,false,false,false,false,false,false,false,false,false,false,false,false,false,false] (by kernel_rfl) rfl rfl ((aN cT.out 1).trans rfl) (fun hHeld=> ?_);refine bF om.FL.tab om.FL.bits (fun ax eu=> ?_);have ai:=bf (Below.refl ER.heap.size ER);replace HB:=mB HB ai;replace eB:=mR eB ai;replace bL:=mR bL ai;replace cT:=mX cT ai;replace cL:=mX cL ai;replace aZ:=mX aZ ai;replace cM:=mX cM ai;clear ai;generalize ER.drew=U0 at HB eB bL cT cL aZ cM hHeld|-
         refine pz 0 141 ax ?_;refine pz 1 142 ax ?_;refine pz 2 143 ax ?_;refine pz 3 144 ax ?_;refine pv 4 145 (.int .i64 (L1:Int)) ax ?_ ?_
         · intro w'
           have z_:=WL1.out
           first|(go_simp;done)|(go_simp;rfl)|(go_simp;rw [z_];rfl)|(go_simp;simp only [gK];exact z_)
         refine nz 145 ?_;refine pz 5 146 ax ?_;refine pz 9 150 ax ?_;refine tv 6 147 (.int .u16 sp) ax eu hHeld ?_ ?_
         · intro w' s0
           have Za:=s0
           first|(go_simp;done)|(go_simp;with_reducible rfl)
         refine nz 147 ?_;refine pz 7 148 ax ?_;refine pz 8 149 ax ?_;refine pv 12 153 (.pointer (some ⟨g,h,none⟩)) ax ?_ ?_
         · intro w'
           have Vg:(0<=(h:Int))=True:=eq_true (by omega);have z3_:((h:Int)<(m:Int))=True:=eq_true (by have:=HN.out;omega);have z4_:(h<m)=True:=eq_true (by have:=HN.out;omega);have Fq:((⟨g,0,none⟩:Addr).add (h:Int).toNat)=⟨g,h,none⟩:=by rw [show (h:Int).toNat=h from by omega,ke,Nat.zero_add]
           have Fs:((⟨g,0,none⟩:Addr).add (h))=⟨g,h,none⟩:=by rw [ke,Nat.zero_add]
           first|(go_simp;done)|(go_simp;rfl)|(go_simp;simp only [Fq,Fs])
         refine nz 153 ?_;refine tv 10 151 (.int .u16 sp) ax eu hHeld ?_ ?_
         · intro w' s0
           have Za:=s0
           first|(go_simp;done)|(go_simp;with_reducible rfl)
         refine nz 151 ?_;refine pz 11 152 ax ?_;refine oz 13 (none) ax (fun K hK=> ?_);refine pF (by rfl) (by rfl) eB HB (h) (sp / 256 % 256) (by have:=HN.out;omega) (fun m_ pU=>by first|(go_simp;done)|(go_simp;rfl)) ?_;intro AjL jC;replace eB:=jC.row;replace HB:=jC.K9;replace bL:=aa.mk (jC.off.Qo bL.out QA.out);replace cT:=aa.mk (jC.keep _ _ _ _ (by decide) cT.out);replace cL:=aa.mk (jC.keep _ _ _ _ (by decide) cL.out);replace aZ:=aa.mk (jC.keep _ _ _ _ (by decide) aZ.out);replace cM:=aa.mk (jC.keep _ _ _ _ (by decide) cM.out);clear jC;refine hK.out _ _ ((aN cT.out 1).trans rfl) (fun hHeld=> ?_);clear hK K;refine pv 14 154 (.pointer (some ⟨g,L1,none⟩)) ax ?_ ?_
         · intro w'
           have Vg:(0<=(L1:Int))=True:=eq_true (by omega);have z3_:((L1:Int)<(m:Int))=True:=eq_true (by have:=HN.out;have:=HL1.out;omega);have z4_:(L1<m)=True:=eq_true (by have:=HN.out;have:=HL1.out;omega);have Fq:((⟨g,0,none⟩:Addr).add (L1:Int).toNat)=⟨g,L1,none⟩:=by rw [show (L1:Int).toNat=L1 from by omega,ke,Nat.zero_add]
           have Fs:((⟨g,0,none⟩:Addr).add (L1))=⟨g,L1,none⟩:=by rw [ke,Nat.zero_add]
           first|(go_simp;done)|(go_simp;rfl)|(go_simp;simp only [Fq,Fs])
         refine nz 154 ?_;refine oz 15 (none) ax (fun K hK=> ?_);refine pF (by rfl) (by rfl) eB HB (L1) (sp % 256) (by have:=HN.out;have:=HL1.out;omega) (fun m_ pU=>by first|(go_simp;done)|(go_simp;rfl)) ?_;intro MT jC;replace eB:=jC.row;replace HB:=jC.K9;replace bL:=aa.mk (jC.off.Qo bL.out QA.out);replace cT:=aa.mk (jC.keep _ _ _ _ (by decide) cT.out);replace cL:=aa.mk (jC.keep _ _ _ _ (by decide) cL.out);replace aZ:=aa.mk (jC.keep _ _ _ _ (by decide) aZ.out);replace cM:=aa.mk (jC.keep _ _ _ _ (by decide) cM.out);clear jC;refine hK.out _ _ ((aN cT.out 1).trans rfl) (fun hHeld=> ?_);clear hK K;refine dz ax ?_;clear ax eu hHeld;clear WL1
         (try dsimp only)
         obtain ⟨L2,hL2⟩:∃ L2,L2=h+2:=⟨_,rfl⟩
         have HL2:=aa.mk hL2;have WL2:aa (wrap64 ((h:Int)+2)=(L2:Int)):=⟨by have:=HN.out;unfold wrap64;omega⟩
         clear hL2;obtain ⟨L3,hL3⟩:∃ L3,L3=h+3:=⟨_,rfl⟩
         have HL3:=aa.mk hL3;have WL3:aa (wrap64 ((h:Int)+3)=(L3:Int)):=⟨by have:=HN.out;unfold wrap64;omega⟩
         clear hL3
         go_upto_region 22 with (fail)
         refine dB (n:=17) (S:=fun w'=>w'.cell? ⟨gd,1,none⟩=some (.int .u16 dp)) (ds:=[]) #[false,false,false,false,false,false,false,false,false,false,false,false,false,false,false,false,false] (by kernel_rfl) rfl rfl ((aN cL.out 1).trans rfl) (fun hHeld=> ?_);refine bF om.FP.tab om.FP.bits (fun ax eu=> ?_);have ai:=bf (Below.refl MT.heap.size MT);replace HB:=mB HB ai;replace eB:=mR eB ai;replace bL:=mR bL ai;replace cT:=mX cT ai;replace cL:=mX cL ai;replace aZ:=mX aZ ai;replace cM:=mX cM ai;clear ai;generalize MT.drew=AjM at HB eB bL cT cL aZ cM hHeld|-
         refine pz 0 155 ax ?_;refine pz 1 156 ax ?_;refine pv 2 157 (.int .i64 (L2:Int)) ax ?_ ?_
         · intro w'
           have z_:=WL2.out
           first|(go_simp;done)|(go_simp;rfl)|(go_simp;rw [z_];rfl)|(go_simp;simp only [gK];exact z_)
         refine nz 157 ?_;refine pz 3 158 ax ?_;refine pz 4 159 ax ?_;refine pv 5 160 (.int .i64 (L3:Int)) ax ?_ ?_
         · intro w'
           have z_:=WL3.out
           first|(go_simp;done)|(go_simp;rfl)|(go_simp;rw [z_];rfl)|(go_simp;simp only [gK];exact z_)
         refine nz 160 ?_;refine pz 6 161 ax ?_;refine pz 10 165 ax ?_;refine tv 7 162 (.int .u16 dp) ax eu hHeld ?_ ?_
         · intro w' s0
           have Za:=s0
           first|(go_simp;done)|(go_simp;with_reducible rfl)
         refine nz 162 ?_;refine pz 8 163 ax ?_;refine pz 9 164 ax ?_;refine pv 13 168 (.pointer (some ⟨g,L2,none⟩)) ax ?_ ?_
         · intro w'
           have Vg:(0<=(L2:Int))=True:=eq_true (by omega);have z3_:((L2:Int)<(m:Int))=True:=eq_true (by have:=HN.out;have:=HL2.out;omega);have z4_:(L2<m)=True:=eq_true (by have:=HN.out;have:=HL2.out;omega);have Fq:((⟨g,0,none⟩:Addr).add (L2:Int).toNat)=⟨g,L2,none⟩:=by rw [show (L2:Int).toNat=L2 from by omega,ke,Nat.zero_add]
           have Fs:((⟨g,0,none⟩:Addr).add (L2))=⟨g,L2,none⟩:=by rw [ke,Nat.zero_add]
           first|(go_simp;done)|(go_simp;rfl)|(go_simp;simp only [Fq,Fs])
         refine nz 168 ?_;refine tv 11 166 (.int .u16 dp) ax eu hHeld ?_ ?_
         · intro w' s0
           have Za:=s0
           first|(go_simp;done)|(go_simp;with_reducible rfl)
         refine nz 166 ?_;refine pz 12 167 ax ?_;refine oz 14 (none) ax (fun K hK=> ?_);refine pF (by rfl) (by rfl) eB HB (L2) (dp / 256 % 256) (by have:=HN.out;have:=HL2.out;omega) (fun m_ pU=>by first|(go_simp;done)|(go_simp;rfl)) ?_;intro Ayk jC;replace eB:=jC.row;replace HB:=jC.K9;replace bL:=aa.mk (jC.off.Qo bL.out QA.out);replace cT:=aa.mk (jC.keep _ _ _ _ (by decide) cT.out);replace cL:=aa.mk (jC.keep _ _ _ _ (by decide) cL.out);replace aZ:=aa.mk (jC.keep _ _ _ _ (by decide) aZ.out);replace cM:=aa.mk (jC.keep _ _ _ _ (by decide) cM.out);clear jC;refine hK.out _ _ ((aN cL.out 1).trans rfl) (fun hHeld=> ?_);clear hK K;refine pv 15 169 (.pointer (some ⟨g,L3,none⟩)) ax ?_ ?_
         · intro w'
           have Vg:(0<=(L3:Int))=True:=eq_true (by omega);have z3_:((L3:Int)<(m:Int))=True:=eq_true (by have:=HN.out;have:=HL3.out;omega);have z4_:(L3<m)=True:=eq_true (by have:=HN.out;have:=HL3.out;omega);have Fq:((⟨g,0,none⟩:Addr).add (L3:Int).toNat)=⟨g,L3,none⟩:=by rw [show (L3:Int).toNat=L3 from by omega,ke,Nat.zero_add]
           have Fs:((⟨g,0,none⟩:Addr).add (L3))=⟨g,L3,none⟩:=by rw [ke,Nat.zero_add]
           first|(go_simp;done)|(go_simp;rfl)|(go_simp;simp only [Fq,Fs])
         refine nz 169 ?_;refine oz 16 (none) ax (fun K hK=> ?_);refine pF (by rfl) (by rfl) eB HB (L3) (dp % 256) (by have:=HN.out;have:=HL3.out;omega) (fun m_ pU=>by first|(go_simp;done)|(go_simp;rfl)) ?_;intro AjP jC;replace eB:=jC.row;replace HB:=jC.K9;replace bL:=aa.mk (jC.off.Qo bL.out QA.out);replace cT:=aa.mk (jC.keep _ _ _ _ (by decide) cT.out);replace cL:=aa.mk (jC.keep _ _ _ _ (by decide) cL.out);replace aZ:=aa.mk (jC.keep _ _ _ _ (by decide) aZ.out);replace cM:=aa.mk (jC.keep _ _ _ _ (by decide) cM.out);clear jC;refine hK.out _ _ ((aN cL.out 1).trans rfl) (fun hHeld=> ?_);clear hK K;refine dz ax ?_;clear ax eu hHeld;clear WL2 WL3
         (try dsimp only)
         have U1:=eB.out;rw [HL3.out,HL2.out,HL1.out] at U1
         clear eB;have eB:aa (Kd.R (Kd.int .u8) 5 AjP w.heap.size (fun _=>True) (.slice (some ⟨g,0,none⟩) m q) (KZ p (ig xF 10 sF) h sp dp)):=⟨by rw [KZ,av AY.out];exact U1⟩
         clear U1 cT cL
         generalize AjP=wz at HB eB bL aZ cM|-)
    have H:=HG.out;clear HG;unfold XJ at H
    generalize KZ p (ig xF 10 sF) h sp dp=y0 at eB H
    obtain rfl:=tV eB;obtain ⟨cc,hp,H⟩:=bR H
    try dsimp only at H
    have HS:=aa.mk hp;clear hp;obtain ⟨⟨y,ye⟩,hp,H⟩:=bR H
    try dsimp only at H
    have HY:=aa.mk hp;clear hp;unfold Ow at H
    obtain ⟨⟨z,ze⟩,hp,H⟩:=bR H
    try dsimp only at H
    have HZ:=aa.mk hp;clear hp;obtain ⟨rfl,rfl⟩:=Prod.mk.inj (cN H);clear H
    go_wp2_with (refine Kd.bU rfl (bM rfl rfl cM.out Try.underlying101 rfl jD.out) ?_)
    refine (fE.calls k mt mc ms mr (some ⟨g,0,none⟩) q y0 cc _ (Kd.ay eB.out).2.2 (Kd.ay eB.out).2.1 HS.out).mono ?_;rintro ev Ayl ⟨rfl,hb⟩;have ai:=hb;replace HB:=mB HB ai;replace eB:=mR eB ai;replace bL:=mR bL ai;replace aZ:=mX aZ ai;replace cM:=mX cM ai;clear ai;clear hb
    (try dsimp only)
    go_upto_region 24 with (((refine jO rfl rfl (i:=2) (v:= .int .u16 cc) (cs':= #[.int .u8 mt,.int .u8 mc,.int .u16 cc,.int .u32 mr,.slice (some ⟨g,0,none⟩) y0.length q]) cM.out rfl ?eY ?_);(case eY=>(have m_:=(aN cM.out 2).trans (rfl:_=some (.int .u16 ms:Value)));(have pU:=ae cM.out 2);first|(go_simp;done)|(go_simp;rfl));intro Aym hs_ ag;replace eB:=oR ag eB cM (by decide);replace bL:=oR ag bL cM (by decide);replace aZ:=oX ag aZ cM (by decide);replace HB:=oB ag HB sW;clear ag;replace cM:=aa.mk hs_;clear hs_))
    go_wp2_with (refine Kd.bU rfl (bM rfl rfl cM.out Try.underlying101 rfl jD.out) ?_)
    refine (bG.calls mt mc cc mr (some ⟨g,0,none⟩) q y0 y ye _ (Kd.ay eB.out).2.2 (Kd.ay eB.out).2.1 HY.out).mono ?_;rintro ev Ayn ⟨v_,rfl,ho,hb⟩;have wR:=aa.mk (Kd.bP ho (af HB.out));obtain ⟨Ay,cy,rfl,_,_⟩:=Kd.cj ho;clear ho;have ai:=hb;replace HB:=mB HB ai;replace eB:=mR eB ai;replace bL:=mR bL ai;replace aZ:=mX aZ ai;replace cM:=mX cM ai;clear ai;clear hb
    (try dsimp only)
    go_upto_region 25 with (((refine jO rfl rfl (i:=9) (v:= .slice Ay y.length cy) (cs':= #[.int .u8 a,.int .u8 t,.int .u8 pr,.int .u16 i,.int .u8 fl,.int .u16 cr,.int .u32 s,.int .u32 d,.slice Ao o.length co,.slice Ay y.length cy]) aZ.out rfl ?eY ?_);(case eY=>(have m_:=(aN aZ.out 9).trans (rfl:_=some (.slice Ab b.length cb:Value)));(have pU:=ae aZ.out 9);first|(go_simp;done)|(go_simp;rfl));intro Ayo hs_ ag;replace eB:=oR ag eB aZ (by decide);replace bL:=oR ag bL aZ (by decide);replace cM:=oX ag cM aZ (by decide);replace wR:=oR ag wR aZ (by decide);replace HB:=oB ag HB lV;clear ag;replace aZ:=aa.mk hs_;clear hs_))
    go_wp2_with (refine Kd.bU rfl (bM rfl rfl aZ.out Try.underlying73 rfl eN.out) ?_)
    refine (aI.calls k a t pr i fl cr s d Ao co o Ay cy y z ze _ (Kd.ay bL.out).2.2 (Kd.ay bL.out).2.1 (Kd.ay wR.out).2.2 (Kd.ay wR.out).2.1 HZ.out).mono ?_;rintro ev Ayp ⟨v_,rfl,ho,hb⟩;have HRz:=aa.mk (Kd.bP ho (af HB.out));obtain ⟨Az,cz,rfl,_,_⟩:=Kd.cj ho;clear ho;have ai:=hb;replace HB:=mB HB ai;replace eB:=mR eB ai;replace bL:=mR bL ai;replace aZ:=mX aZ ai;replace cM:=mX cM ai;replace wR:=mR wR ai;clear ai;clear hb
    (try dsimp only)
    go_wp2
    (try simp only [Exit.inBlock,Exit.then])
    go_ret2
    exact ⟨_,rfl,HRz.out,HB.out⟩
end Go.Proofs.Ytkmimamminddiaa.PB
namespace Go.Proofs.Ytkmimamminddiaa.Pure
open Go.RowKit Go.Proofs.Ytkmimamminddiaa.PB Go.Proofs.ah.bT Go.Proofs.ah.cY
open Go.Proofs.Ytkmimamminddiaa.Spec Go.Proofs.Ytkmimamminddiaa.jJ
theorem XM {k:Nat} {a t i fl cr s d:Int} {o b:List Int} {r:LK} (e:rR k a t i fl cr s d o b=some r) (h0:r.e=0):(r.a,r.t,r.pr,r.i,r.fl,r.cr,r.s,r.d,r.o,r.b)=(a,t,17,i,fl,cr,s,d,o,b):=by
 unfold rR at e
 obtain ⟨⟨us,ud,uc,ub,e2⟩,_,e⟩:=bR e;dsimp only at e
 by_cases he:e2=0
 ·rw [aq he] at e
  obtain ⟨rt,_,e⟩:=bR e
  cases rt with
  |false=>rw [av (by decide)] at e;obtain rfl:=cN e;exact absurd h0 (by decide)
  |true=>rw [aq rfl] at e;obtain rfl:=cN e;rfl
 rw [av he] at e;obtain rfl:=cN e;exact absurd h0 he
theorem XN {k:Nat} {a t i fl cr s d:Int} {o b:List Int} {r:LK} (e:rS k a t i fl cr s d o b=some r) (h0:r.e=0):(r.a,r.t,r.pr,r.i,r.fl,r.cr,r.s,r.d,r.o,r.b)=(a,t,6,i,fl,cr,s,d,o,b):=by
 unfold rS at e
 obtain ⟨⟨ts,td,tq,ta,tf,tw,tc,tu,tJ,tb,e2⟩,_,e⟩:=bR e;dsimp only at e
 by_cases he:e2=0
 ·rw [aq he] at e
  obtain ⟨rt,_,e⟩:=bR e
  cases rt with
  |false=>rw [av (by decide)] at e;obtain rfl:=cN e;exact absurd h0 (by decide)
  |true=>rw [aq rfl] at e;obtain rfl:=cN e;rfl
 rw [av he] at e;obtain rfl:=cN e;exact absurd h0 he
theorem U3 {k:Nat} {a t i fl cr s d:Int} {o b:List Int} {r:LK} (e:nH k a t i fl cr s d o b=some r) (h0:r.e=0):(r.a,r.t,r.pr,r.i,r.fl,r.cr,r.s,r.d,r.o,r.b)=(a,t,1,i,fl,cr,s,d,o,b):=by
 unfold nH at e
 obtain ⟨⟨mt,mc,ms,mr,mb,e2⟩,_,e⟩:=bR e;dsimp only at e
 by_cases he:e2=0
 rotate_left
 ·rw [av he] at e;obtain rfl:=cN e;exact absurd h0 he
 rw [aq he] at e
 obtain ⟨rt,_,e⟩:=bR e
 cases rt with
 |false=>rw [av (by decide)] at e;obtain rfl:=cN e;exact absurd h0 (by decide)
 |true=>
  rw [aq rfl] at e
  obtain ⟨⟨il,ok⟩,_,e⟩:=bR e;dsimp only at e
  obtain ⟨ec,_,e⟩:=bR e
  cases ec with
  |true=>rw [aq rfl] at e;obtain rfl:=cN e;rfl
  |false=>
   rw [av (by decide)] at e
   obtain ⟨er,_,e⟩:=bR e
   cases er with
   |false=>rw [av (by decide)] at e;obtain rfl:=cN e;exact absurd h0 (by decide)
   |true=>
    rw [aq rfl] at e
    cases ok with
    |false=>rw [av (by decide)] at e;obtain rfl:=cN e;exact absurd h0 (by decide)
    |true=>rw [aq rfl] at e;obtain rfl:=cN e;rfl
theorem Ad0 {l:List Int} (h:gJ l) (hl:l.length<=2000) {r:LK} (e:iQ.f 4000 l=some r) (h0:r.e=0):Aw l=(r.a,r.t,r.pr,r.i,r.fl,r.cr,r.s,r.d,r.o,r.b,0):=by
 obtain ⟨a,t,pr,i,fl,cr,s,d,o,b,e_,hi,_⟩:=AE h;unfold iQ.f at e
 rw [rW h (by omega) 4000 (by omega),hi,bD] at e
 dsimp only at e
 rw [hi]
 by_cases he:e_=0
 rotate_left
 ·rw [av he] at e;obtain rfl:=cN e;exact absurd h0 he
 rw [aq he] at e
 subst he
 have fin:∀ p,pr=p ->(r.a,r.t,r.pr,r.i,r.fl,r.cr,r.s,r.d,r.o,r.b)=(a,t,p,i,fl,cr,s,d,o,b) ->(a,t,pr,i,fl,cr,s,d,o,b,(0:Int))=(r.a,r.t,r.pr,r.i,r.fl,r.cr,r.s,r.d,r.o,r.b,0):=fun p hp q=>by
  subst hp;simp only [Prod.mk.injEq] at q|-
  obtain ⟨q1,q2,q3,q4,q5,q6,q7,q8,q9,Qj⟩:=q;exact ⟨q1.symm,q2.symm,q3.symm,q4.symm,q5.symm,q6.symm,q7.symm,q8.symm,q9.symm,Qj.symm,trivial⟩
 by_cases Fc:pr=17
 ·rw [aq Fc] at e;exact fin _ Fc (XM e h0)
 rw [av Fc] at e
 by_cases h6:pr=6
 ·rw [aq h6] at e;exact fin _ h6 (XN e h0)
 rw [av h6] at e
 by_cases h1:pr=1
 ·rw [aq h1] at e;exact fin _ h1 (U3 e h0)
 rw [av h1] at e;obtain rfl:=cN e;exact absurd h0 (by decide)
theorem U4:∀ {b:List Int},gJ b ->∀ {mt mc ms mr:Int} {mb:List Int},fM.Ii b=(mt,mc,ms,mr,mb,0) ->b=fM.cQ mt mc ms mr mb /\ 8<=b.length
 |b,hb,mt,mc,ms,mr,mb,e=>by
  unfold fM.Ii at e
  by_cases h8:b.length<8
  ·rw [aq h8] at e;simp at e
  rw [av h8] at e
  simp only [Prod.mk.injEq,and_true] at e
  obtain ⟨rfl,rfl,rfl,rfl,rfl⟩:=e
  obtain ⟨x0,x1,x2,x3,x4,x5,x6,x7,tl,rfl⟩:∃ x0 x1 x2 x3 x4 x5 x6 x7 tl,b=x0::x1::x2::x3::x4::x5::x6::x7::tl:=by
   rcases b with _|⟨x0,_|⟨x1,_|⟨x2,_|⟨x3,_|⟨x4,_|⟨x5,_|⟨x6,_|⟨x7,tl⟩⟩⟩⟩⟩⟩⟩⟩
   all_goals first
    |exact ⟨_,_,_,_,_,_,_,_,_,rfl⟩
    |exact absurd (by simp) h8
  have hx:∀ x ∈ [x0,x1,x2,x3,x4,x5,x6,x7],0<=x /\ x<=255:=fun x hm=>hb x (List.mem_append_left tl hm)
  have k2:=hx x2 (by simp);have k3:=hx x3 (by simp);have k4:=hx x4 (by simp);have k5:=hx x5 (by simp);have k6:=hx x6 (by simp);have k7:=hx x7 (by simp);refine ⟨?_,by simp only [List.length_cons];omega⟩
  show _=[x0,x1,(x2*256+x3) / 256 % 256,(x2*256+x3) % 256,((x4*256+x5)*65536+(x6*256+x7)) / 16777216 % 256,((x4*256+x5)*65536+(x6*256+x7)) / 65536 % 256,((x4*256+x5)*65536+(x6*256+x7)) / 256 % 256,((x4*256+x5)*65536+(x6*256+x7)) % 256]++tl
  simp only [List.cons_append,List.nil_append,List.cons.injEq,and_true,true_and]
  omega
theorem U5 (K:Nat) (hK:4<=K) {x o n:Int} (hx:qV x) (ho:qV o) (hn:qV n):∃ y,qV y /\ qv.f K x o n=some y /\ ld.f K x o n=some y:=by
 unfold qV at hx ho hn
 have e:=nh.fold_eq ((65535 - x+(65535 - o)+n) % 4294967296) (by omega) (by omega) K (by omega);have e2:=nh.qR ((65535 - x+(65535 - o)+n) % 4294967296) (by omega) (by omega) K (by omega);have hr:=iG ((65535 - x+(65535 - o)+n) % 4294967296) (by omega);refine ⟨65535 - norm ((65535 - x+(65535 - o)+n) % 4294967296),by unfold qV;omega, ?_, ?_⟩
 ·unfold qv.f
  rw [show IntKind.u16.max=65535 from rfl,qE hx.1 hx.2,qE ho.1 ho.2,e,bD,qE hr.1 hr.2]
 ·unfold ld.f
  rw [show IntKind.u16.max=65535 from rfl,qE hx.1 hx.2,qE ho.1 ho.2,e2,bD,qE hr.1 hr.2]
theorem U6 (K:Nat) (hK:4<=K) {P:List Int} (hP:gJ P):∀ (ns:List Int) (j:Nat) (x:Int) (m:List Int),gJ m ->12+2*(j+ns.length)<=m.length ->m.length<=100000 ->(∀ n ∈ ns,qV n) ->qV x ->∃ x',qV x' /\ Pw K P.length ns j x (P++m)=some (x',P++Fp m (12+2*j) ns) /\ MO K ns j x m=some (x',Fp m (12+2*j) ns)
 |[],j,x,m,_,_,_,_,hx=>⟨x,hx,rfl,rfl⟩
 |n::ns,j,x,m,hm,hl,hl2,hn,hx=>by
  rw [List.length_cons] at hl
  have hn1:=hn n (List.mem_cons_self ..);have hB:gJ (P++m):=hP.append hm;have ho:=xJ hB (P.length+12+2*j) (by rw [List.length_append];omega)
  have eg:iX (P++m) (P.length+12+2*j)=iX m (12+2*j):=by
   show (P++m).getD _ 0*256+(P++m).getD _ 0=m.getD _ 0*256+m.getD _ 0
   rw [List.getD_eq_getElem?_getD,List.getElem?_append_right (by omega),List.getD_eq_getElem?_getD,List.getElem?_append_right (by omega),List.getD_eq_getElem?_getD,List.getD_eq_getElem?_getD,show P.length+12+2*j - P.length=12+2*j from by omega,show P.length+12+2*j+1 - P.length=12+2*j+1 from by omega]
  obtain ⟨x1,hx1,e1,e2⟩:=U5 K hK hx (eU hm (12+2*j)) hn1;obtain ⟨x',hx',e3,e4⟩:=U6 K hK hP ns (j+1) x1 (ig m (12+2*j) n) (og hm _ _) (by rw [pW];omega) (by rw [pW];omega) (fun q hq=>hn q (List.mem_cons_of_mem _ hq)) hx1;refine ⟨x',hx', ?_, ?_⟩
  ·rw [Pw,ho,bD,eg,e1,bD,qz P m (P.length+12+2*j) (12+2*j) n (by omega),e3,Fp,show 12+2*(j+1)=12+2*j+2 from by omega]
  ·rw [MO,iP hm (12+2*j) (by omega) (by omega),bD,e2,bD,e4,Fp,show 12+2*(j+1)=12+2*j+2 from by omega]
theorem XO (p:Int) (x:List Int) (h:Nat) (sp dp:Int):Ci p x 0 h sp dp=KZ p x h sp dp:=by
 unfold Ci KZ;rw [Nat.zero_add,Nat.zero_add,Nat.zero_add]
section
variable {C mb:List Int} {mt mc ms mr si sp di dp:Int}
theorem U7 (hCB:gJ C) (h1:U8 mt) (h2:U8 mc) (hb:gJ mb) (hl:mb.length<=2000) (hC:C.length<=100) {y:Int} (hw:iL mb=some y):
  ∃ x,qV x /\ MO 4000 (wI si di) 0 (iX mb 10) mb=some (x,Fp mb 12 (wI si di)) /\ Tj 4000 (C++fM.cQ mt mc ms mr mb) C.length si sp di dp=if mb.getD 9 0=1 /\ ¬ sp=dp then some ([],21) else some (C++fM.cQ mt mc (Qc mt mc mr (Iv mb x y.toNat si sp di dp)) mr (Iv mb x y.toNat si sp di dp),0):=by
 obtain ⟨he,h20,h8,h4,hp⟩:=zx hw;have hB8:∀ (m:Int) (l:List Int),fM.cQ mt mc m mr l=[mt,mc,m / 256 % 256,m % 256,mr / 16777216 % 256,mr / 65536 % 256,mr / 256 % 256,mr % 256]++l:=fun _ _=>rfl
 obtain ⟨P,hP⟩:∃ P,P=C++[mt,mc,ms / 256 % 256,ms % 256,mr / 16777216 % 256,mr / 65536 % 256,mr / 256 % 256,mr % 256]:=⟨_,rfl⟩
 have hPl:P.length=C.length+8:=by rw [hP,List.length_append];simp only [List.length_cons,List.length_nil]
 have hE:C++fM.cQ mt mc ms mr mb=P++mb:=by rw [hB8,<- List.append_assoc,<- hP]
 have hPB:gJ P:=by
  rw [hP];refine hCB.append (fun x hx=> ?_);simp only [List.mem_cons,List.not_mem_nil,or_false] at hx
  unfold U8 at h1 h2
  omega
 obtain ⟨q,eq,hqy⟩:=Bs hb (by omega) 4000 (by omega);obtain rfl:=hqy y hw;have ed:(P++mb).drop (C.length+8)=mb:=List.drop_left' hPl
 have e9:rd (P++mb) ((C.length+8+9:Nat):Int)=mb.getD 9 0:=by
  rw [gU _ _ _ rfl,List.getD_eq_getElem?_getD,List.getElem?_append_right (by omega),List.getD_eq_getElem?_getD,show C.length+8+9 - P.length=9 from by omega]
 have e10:cH.f ((P++mb).drop (C.length+8+10))=some (iX mb 10):=by
  rw [<- List.drop_drop,ed];exact xJ hb 10 (by omega)
 obtain ⟨x,hx,ex,er⟩:=U6 4000 (by omega) hPB (wI si di) 0 (iX mb 10) mb hb (by simp only [wI,List.length_cons,List.length_nil];omega) (by omega) AdU (eU hb _);rw [hPl] at ex
 refine ⟨x,hx,er, ?_⟩
 have e6:Ci (mb.getD 9 0) (ig (P++Fp mb 12 (wI si di)) (C.length+8+10) x) (C.length+8) q.toNat sp dp=P++Iv mb x q.toNat si sp di dp:=by
  rw [qz P _ _ 10 _ (by omega)];unfold Iv Ci
  split
  ·rw [qz P _ _ (0+(q.toNat+4)) _ (by omega)]
  ·rw [qz P _ (C.length+8+q.toNat) (0+q.toNat) _ (by omega),qz P _ _ (0+(q.toNat+2)) _ (by omega)]
 have hML:=EL (mb:=mb) (x:=x) (si:=si) (sp:=sp) (di:=di) (dp:=dp) (h:=q.toNat);have hMB:=Oz (mb:=mb) (x:=x) (si:=si) (sp:=sp) (di:=di) (dp:=dp) (h:=q.toNat) hb;obtain ⟨M,hM⟩:∃ M,M=Iv mb x q.toNat si sp di dp:=⟨_,rfl⟩
 rw [<- hM] at e6 hML hMB|-
 have e7:ig (P++M) (C.length+2) 0=C++fM.cQ mt mc 0 mr M:=by
  rw [hP,List.append_assoc,qz C _ _ 2 _ rfl]
  rfl
 have e8:(C++fM.cQ mt mc 0 mr M).drop C.length=fM.cQ mt mc 0 mr M:=List.drop_left' rfl;have eS:=nh.of_eq (fM.cQ mt mc 0 mr M) (fM.lR h1 h2 hMB) (by rw [fM.gD];omega) 4000 (by rw [fM.gD];omega) (by omega)
 have e9':ig (C++fM.cQ mt mc 0 mr M) (C.length+2) (ck (fM.cQ mt mc 0 mr M))=C++fM.cQ mt mc (Qc mt mc mr M) mr M:=by
  rw [qz C _ _ 2 _ rfl]
  rfl
 unfold Tj;rw [hE,ed,eq,bD,e9]
 dsimp only
 by_cases c:mb.getD 9 0=1 /\ ¬ sp=dp
 ·rw [aq c,aq c]
 rw [av c,av c,e10,bD,ex,bD]
 dsimp only
 rw [e6,e7,e8,eS,bD,e9']
end
theorem ES {l:List Int} (h:gJ l) (hl:l.length<=2000) (hck:∀ a t pr i fl cr s d o b,Aw l=(a,t,pr,i,fl,cr,s,d,o,b,0) ->iX l 10=Fm a t pr i fl cr s d o b) {si sp di dp:Int} (hs:uJ si) (hp:qV sp) (hd:uJ di) (hq:qV dp):
  ∃ r:LK,iQ.f 4000 l=some r /\ BS.f 4000 l=some r /\ (r.e=0 ->¬ r.qD.length=0 ->∃ (x:List Int) (hd y:Nat),fQ.f l=some (x,(hd:Int)) /\ bO.f 4000 (x.drop (hd+8))=some ((y:Int),true) /\ 20<=y /\ hd+8+y+8<=x.length /\ x.length<=100000 /\ 20<=hd) /\
   (r.e=0 ->¬ r.qD.length=0 ->∀ mt mc ms mr mb e,ek.f r.b=some (mt,mc,ms,mr,mb,e) ->gJ mb /\ mb.length<=100000 /\ ∃ h:Nat,(nw mb).2.2.2.1=(h:Int) /\ 20<=h /\ h+8<=mb.length) /\
   ∃ x e,Me 4000 r l si sp di dp=some (x,e) /\ wA 4000 r si sp di dp=some (x,e):=by
 obtain ⟨r,e1,e2,_⟩:=Qh h (by omega);refine ⟨r,e1,e2, ?_⟩
 by_cases he:r.e=0
 rotate_left
 ·refine ⟨fun c=>absurd c he,fun c=>absurd c he,[],r.e, ?_, ?_⟩
  ·unfold Me
   rw [av he]
  ·unfold wA
   rw [av he]
 have S:=XH h hl e1 he
 have G:=Ad0 h hl e1 he;obtain ⟨i1,i2,i3,i4,i5,i6⟩:=AG h G;have own:fQ.f l=some (l.take (iX l 2).toNat,20+(r.o.length:Int)):=by rw [AdT h i2 i4,i5]
 have UW:=S.hl;have wG:=S.h.wG
 by_cases hn:r.qD.length=0
 ·refine ⟨fun _ c=>absurd hn c,fun _ c=>absurd hn c,[],21, ?_, ?_⟩
  ·unfold Me
   rw [aq he,own,bD,aq hn]
  ·unfold wA
   rw [aq he,aq hn]
 rcases S.c with ⟨Qx,us,ud,uc,ub,hu,hx,Qy⟩|⟨Qx,ts,td,tq,ta,tf,tw,tc,tu,tJ,tb,hu,hx,Qy⟩|⟨Qx,mt,mc,ms,mr,mb,hu,hx,Qy⟩
 ·exact absurd (by rw [Qy];rfl) hn
 ·exact absurd (by rw [Qy];rfl) hn
 ·rcases Qy with ⟨_,Qy⟩|⟨_,p,hin,Qy⟩
  ·exact absurd (by rw [Qy];rfl) hn
  ·obtain ⟨mt',mc',ms',mr',mb',e',hu',h1,h2,h3,h4,h5,h6⟩:=C0 S.hb
   rw [hu] at hu'
   obtain ⟨rfl,rfl,rfl,rfl,rfl,rfl⟩:mt=mt' /\ mc=mc' /\ ms=ms' /\ mr=mr' /\ mb=mb' /\ 0=e':=by simpa using hu'
   obtain ⟨hb8,Ayt⟩:=U4 S.hb hu
   obtain ⟨y,hy⟩:∃ y,iL mb=some y:=by
    unfold wq at hin
    cases hw:iL mb with
    |none=>rw [hw] at hin;cases hin
    |some y=>exact ⟨y,rfl⟩
   obtain ⟨w1,w2,w3,w4,w5⟩:=zx hy;obtain ⟨C,hC⟩:∃ C,C=uu r.a r.t r.pr r.i r.fl r.cr r.s r.d r.o r.b (iX l 10)++r.o:=⟨_,rfl⟩
   have hCl:C.length=20+r.o.length:=by rw [hC,List.length_append,lS]
   have hCB:gJ C:=by rw [hC];exact (AA S.h.ha S.h.ht S.hp wG _).append S.h.ho
   have hout:l.take (iX l 2).toNat=C++fM.cQ mt mc ms mr mb:=by rw [i1,<- hC,<- hb8]
   have hm8:=fM.gD mt mc ms mr mb;have hol:(C++fM.cQ mt mc ms mr mb).length=28+r.o.length+mb.length:=by rw [List.length_append,hCl,hm8];omega
   have hB8:fM.cQ mt mc ms mr mb=[mt,mc,ms / 256 % 256,ms % 256,mr / 16777216 % 256,mr / 65536 % 256,mr / 256 % 256,mr % 256]++mb:=rfl
   have ed:(C++fM.cQ mt mc ms mr mb).drop (20+r.o.length+8)=mb:=by
    rw [hB8,<- List.append_assoc];exact List.drop_left' (by rw [List.length_append,hCl];rfl)
   obtain ⟨q,eq,hqy⟩:=Bs h5 (by omega) 4000 (by omega);obtain rfl:=hqy y hy;refine ⟨fun _ _=>⟨C++fM.cQ mt mc ms mr mb,20+r.o.length,q.toNat,by rw [own,hout];rfl,by rw [ed,eq,hy,Int.toNat_of_nonneg (by omega)];rfl,by omega,by omega,by omega,by omega⟩, ?_, ?_⟩
   ·intro _ _ a1 a2 a3 a4 a5 a6 hm
    rw [fM.oP S.hb (by omega),hu,Option.some.injEq] at hm
    obtain rfl:mb=a5:=congrArg (fun x=>x.2.2.2.2.1) hm;exact ⟨h5,by omega,q.toNat,by rw [uK hy];show q=_;omega,by omega,by omega⟩
   ·obtain ⟨x,hxu,er,eg⟩:=U7 (ms:=ms) (mr:=mr) (si:=si) (sp:=sp) (di:=di) (dp:=dp) hCB h1 h2 h5 (by omega) (by omega) hy
    have hsm:(nw mb).2.2.1=mb.getD 9 0:=by rw [uK hy]
    have hsh:(nw mb).2.2.2.1=q:=by rw [uK hy]
    have hML:=EL (mb:=mb) (x:=x) (si:=si) (sp:=sp) (di:=di) (dp:=dp) (h:=q.toNat);have hMB:=Oz (mb:=mb) (x:=x) (si:=si) (sp:=sp) (di:=di) (dp:=dp) (h:=q.toNat) h5
    have rb:Qi 4000 r si sp di dp mt mc ms mr mb (mb.getD 9 0) q.toNat=some (cQ r.a r.t r.pr r.i r.fl r.cr r.s r.d r.o (fM.cQ mt mc (Qc mt mc mr (Iv mb x q.toNat si sp di dp)) mr (Iv mb x q.toNat si sp di dp)),0):=by
     unfold Qi;rw [show (10:Int)=((10:Nat):Int) from rfl,iP h5 10 (by omega) (by omega),bD,er,bD]
     dsimp only
     rw [<- XO]
     show XJ 4000 r mt mc ms mr (Iv mb x q.toNat si sp di dp)=_
     generalize Iv mb x q.toNat si sp di dp=M at hML hMB|-
     unfold XJ;rw [fM.Bp mt mc ms mr M 4000 (Nat.le_refl _) (by omega) (fM.lR h1 h2 hMB),bD,fM.lQ _ _ _ _ (by omega),av (by omega),bD];exact AdW S.h S.hp S.h.hs S.h.hd (by rw [fM.gD];omega)
    have fin:C++fM.cQ mt mc (Qc mt mc mr (Iv mb x q.toNat si sp di dp)) mr (Iv mb x q.toNat si sp di dp)=cQ r.a r.t r.pr r.i r.fl r.cr r.s r.d r.o (fM.cQ mt mc (Qc mt mc mr (Iv mb x q.toNat si sp di dp)) mr (Iv mb x q.toNat si sp di dp)):=by
     generalize Iv mb x q.toNat si sp di dp=M at hML hMB|-
     have e:r.b.length=(fM.cQ mt mc (Qc mt mc mr M) mr M).length:=by rw [hb8,fM.gD,fM.gD,hML]
     unfold cQ;rw [hC,hck _ _ _ _ _ _ _ _ _ _ G,Qd _ _ _ _ _ _ _ _ _ e,Gb _ _ _ _ _ _ _ _ _ e]
    have pf:Me 4000 r l si sp di dp=Tj 4000 (C++fM.cQ mt mc ms mr mb) C.length si sp di dp:=by
     unfold Me;rw [aq he,own,bD]
     dsimp only
     rw [av hn,hout,hCl,show (20+(r.o.length:Int)).toNat=20+r.o.length from by omega]
    have rf:wA 4000 r si sp di dp=if mb.getD 9 0=1 /\ ¬ sp=dp then some ([],21) else Qi 4000 r si sp di dp mt mc ms mr mb (mb.getD 9 0) q.toNat:=by
     unfold wA;rw [aq he,av hn,fM.oP S.hb (by omega),hu,bD]
     dsimp only
     rw [hsm,hsh]
     by_cases c1:mb.getD 9 0=1
     ·rw [aq c1]
      by_cases c2:sp=dp
      ·rw [aq c2,av (fun c=>c.2 c2)]
      rw [av c2,aq ⟨c1,c2⟩]
     rw [av c1,av (fun c=>c1 c.1)]
    rw [pf,eg,rf]
    by_cases c:mb.getD 9 0=1 /\ ¬ sp=dp
    ·rw [aq c,aq c]
     exact ⟨_,_,rfl,rfl⟩
    rw [av c,av c,rb,fin]
    exact ⟨_,_,rfl,rfl⟩
section
variable {a t pr i fl cr s d:Int} {o l:List Int}
theorem La {x:Int} (hx:qV x):kW (words (uu a t pr i fl cr s d o l x++o))=kW (words (uu a t pr i fl cr s d o l 0++o))+x:=by
 have hn:(uu a t pr i fl cr s d o l 0++o).length=20+o.length:=by rw [List.length_append,lS]
 have hc:=KD (uu a t pr i fl cr s d o l 0++o) 5 (x / 256 % 256) (x % 256) (by rw [hn];omega);have hset:((uu a t pr i fl cr s d o l 0++o).set (2*5) (x / 256 % 256)).set (2*5+1) (x % 256)=uu a t pr i fl cr s d o l x++o:=rfl;have hw:Mw (uu a t pr i fl cr s d o l 0++o) 5=0 / 256 % 256*256+0 % 256:=rfl;rw [hset,hw] at hc
 unfold qV at hx
 rw [hc]
 omega
theorem Ip (ha:U8 a) (ht:U8 t) (hp:U8 pr) (ho:gJ o) (wG:(o.length:Int)<=40):0<kW (words (uu a t pr i fl cr s d o l 0++o)):=by
 have hB:=(AA (i:=i) (fl:=fl) (cr:=cr) (s:=s) (d:=d) (l:=l) ha ht hp wG 0).append ho;have hW:=fN _ hB;obtain ⟨ws,e⟩:∃ ws,words (uu a t pr i fl cr s d o l 0++o)=((64+(20+(o.length:Int)) / 4)*256+a)::ws:=⟨_,rfl⟩
 rw [e] at hW|-
 have h2:=mD ws (fun x hx=>hW x (List.mem_cons_of_mem _ hx))
 show 0<((64+(20+(o.length:Int)) / 4)*256+a)+kW ws
 unfold U8 at ha
 omega
theorem C5:Fm a t pr i fl cr s d o l=65535 - norm (kW (words (uu a t pr i fl cr s d o l 0++o))):=rfl
end
theorem Qk {l:List Int} (h:gJ l) {a t pr i fl cr s d:Int} {o b:List Int} (e:Aw l=(a,t,pr,i,fl,cr,s,d,o,b,0)):l.take (cU l).toNat=uu a t pr i fl cr s d o b (iX l 10)++o:=by
 obtain ⟨i1,i2,i3,i4,i5,i6⟩:=AG h e;have hr:=lM l;have e1:l.take (cU l).toNat=(l.take (iX l 2).toNat).take (cU l).toNat:=by rw [List.take_take,Nat.min_eq_left (by omega)]
 rw [e1,i1];exact List.take_left' (by rw [List.length_append,lS];omega)
theorem U9 {l:List Int} (h:gJ l) {a t pr i fl cr s d:Int} {o b:List Int} (e:Aw l=(a,t,pr,i,fl,cr,s,d,o,b,0)) (hc:iX l 10≠65535):iX l 10=Fm a t pr i fl cr s d o b:=by
 obtain ⟨i1,i2,i3,i4,i5,i6⟩:=AG h e;obtain ⟨a',t',pr',i',fl',of',s',d',o',b',e',hi,h1,h2,h3,h4,h5,h6,h7,h8,h9,h10,Xz,IW,h13⟩:=AE h;rw [e] at hi
 simp only [Prod.mk.injEq] at hi
 obtain ⟨rfl,rfl,rfl,rfl,rfl,rfl,rfl,rfl,rfl,rfl,rfl⟩:=hi;have hr:=eU h 10;unfold sS at i6
 rw [Qk h e,La hr] at i6
 have hp:=Ip (i:=i) (fl:=fl) (cr:=cr) (s:=s) (d:=d) (l:=b) h1 h2 h3 h9 Xz;rw [C5];generalize kW (words (uu a t pr i fl cr s d o b 0++o))=S at i6 hp|-
 unfold norm at i6|-
 rw [av (by omega)] at i6
 rw [av (by omega)]
 omega
section
variable {a t pr i fl cr s d:Int} {o Y:List Int}
theorem Ql (hk:AF a t i fl cr s d o) (hp:U8 pr) {k:Nat} {v:Int} (hB:gJ ((cQ a t pr i fl cr s d o Y).set k v)) (hs:sS ((cQ a t pr i fl cr s d o Y).set k v)=65535):iX ((cQ a t pr i fl cr s d o Y).set k v) 10≠65535:=by
 intro hc;have hL:(cQ a t pr i fl cr s d o Y).length=20+o.length+Y.length:=gD;have hpos:=Ip (i:=i) (fl:=fl) (cr:=cr) (s:=s) (d:=d) (l:=Y) hk.ha hk.ht hp hk.ho hk.wG;obtain ⟨c,Z8⟩:∃ c,c=Fm a t pr i fl cr s d o Y:=⟨_,rfl⟩
 have hcr:0<=c /\ c<=65534:=by
  rw [Z8,C5];have:=Kz hpos;have:=iG _ (Int.le_of_lt hpos)
  omega
 have g10:(cQ a t pr i fl cr s d o Y).getD 10 0=c / 256 % 256:=by rw [Z8];rfl
 have g11:(cQ a t pr i fl cr s d o Y).getD 11 0=c % 256:=by rw [Z8];rfl
 have gl:iX ((cQ a t pr i fl cr s d o Y).set k v) 10=((cQ a t pr i fl cr s d o Y).set k v).getD 10 0*256+((cQ a t pr i fl cr s d o Y).set k v).getD 11 0:=rfl;have uL:=hB.getD 10;have Ct:=hB.getD 11
 by_cases kl:k<(cQ a t pr i fl cr s d o Y).length
 rotate_left
 ·rw [List.set_eq_of_length_le (by omega)] at gl hc
  rw [gl,g10,g11] at hc
  omega
 have Qj:=EK (cQ a t pr i fl cr s d o Y) 10 k v kl
 have U2:=EK (cQ a t pr i fl cr s d o Y) 11 k v kl;have u10:((cQ a t pr i fl cr s d o Y).set k v).getD 10 0=255:=by omega
 have u11:((cQ a t pr i fl cr s d o Y).set k v).getD 11 0=255:=by omega
 rw [u10] at Qj
 rw [u11] at U2
 by_cases k1:10=k \/ 11=k
 rotate_left
 ·rw [av (fun e=>k1 (.inl e)),g10] at Qj
  rw [av (fun e=>k1 (.inr e)),g11] at U2
  omega
 -- the header with ffff in it
 have e0:cU ((cQ a t pr i fl cr s d o Y).set k v)=20+(o.length:Int):=by
  have h0:=EK (cQ a t pr i fl cr s d o Y) 0 k v kl;rw [av (by omega)] at h0
  have hb:=KQ (a:=a) (t:=t) (pr:=pr) (i:=i) (fl:=fl) (cr:=cr) (s:=s) (d:=d) (o:=o) (l:=Y) c (o++Y) hk.wG hk.h4;unfold cU at hb|-
  rw [h0];exact hb
 have et:((cQ a t pr i fl cr s d o Y).set k v).take (20+o.length)=uu a t pr i fl cr s d o Y 65535++o:=by
  have hl2:(uu a t pr i fl cr s d o Y c++o).length=20+o.length:=by rw [List.length_append,lS]
  have eb:cQ a t pr i fl cr s d o Y=(uu a t pr i fl cr s d o Y c++o)++Y:=by rw [Z8];rfl
  have hk2:(uu a t pr i fl cr s d o Y c++o).set k v=uu a t pr i fl cr s d o Y 65535++o:=by
   rcases k1 with k1|k1
   ·rw [aq k1] at Qj
    rw [av (by omega),g11] at U2
    subst k1;rw [<- Qj]
    show [64+(20+(o.length:Int)) / 4,a,(20+(o.length:Int)+(Y.length:Int)) / 256 % 256,(20+(o.length:Int)+(Y.length:Int)) % 256,i / 256 % 256,i % 256,(fl*8192+cr) / 256 % 256,(fl*8192+cr) % 256,t,pr,255,c % 256,s / 16777216 % 256,s / 65536 % 256,s / 256 % 256,s % 256,d / 16777216 % 256,d / 65536 % 256,d / 256 % 256,d % 256]++o=_
    rw [<- U2]
    rfl
   ·rw [aq k1] at U2
    rw [av (by omega),g10] at Qj
    subst k1;rw [<- U2]
    show [64+(20+(o.length:Int)) / 4,a,(20+(o.length:Int)+(Y.length:Int)) / 256 % 256,(20+(o.length:Int)+(Y.length:Int)) % 256,i / 256 % 256,i % 256,(fl*8192+cr) / 256 % 256,(fl*8192+cr) % 256,t,pr,c / 256 % 256,255,s / 16777216 % 256,s / 65536 % 256,s / 256 % 256,s % 256,d / 16777216 % 256,d / 65536 % 256,d / 256 % 256,d % 256]++o=_
    rw [<- Qj]
    rfl
  rw [eb,List.set_append_left _ _ (by rw [hl2];omega),List.take_left' (by rw [List.length_set,hl2]),hk2]
 unfold sS at hs
 rw [e0,show (20+(o.length:Int)).toNat=20+o.length from by omega,et,La (by unfold qV;omega)] at hs
 rw [C5] at Z8
 generalize kW (words (uu a t pr i fl cr s d o Y 0++o))=S at hs Z8 hpos
 unfold norm at hs Z8
 rw [av (by omega)] at hs
 rw [av (by omega)] at Z8
 have c0:c=0:=by omega
 rw [g10] at Qj
 rw [g11] at U2
 rcases k1 with k1|k1
 ·rw [av (by omega)] at U2;omega
 ·rw [av (by omega)] at Qj;omega
end
theorem Lb {a t pr i fl cr s d:Int} {o Y:List Int} (hk:AF a t i fl cr s d o) (hp:U8 pr):iX (cQ a t pr i fl cr s d o Y) 10≠65535:=by
 have hpos:=Ip (i:=i) (fl:=fl) (cr:=cr) (s:=s) (d:=d) (l:=Y) hk.ha hk.ht hp hk.ho hk.wG;have e:iX (cQ a t pr i fl cr s d o Y) 10=Fm a t pr i fl cr s d o Y / 256 % 256*256+Fm a t pr i fl cr s d o Y % 256:=rfl;rw [e,C5];have:=Kz hpos;have:=iG _ (Int.le_of_lt hpos)
 omega
theorem Gc (p0 p1 p2 p3 p4 p5 p6 p7 p8 p9 side n:Int) (h0:0<=p0) (h8:0<=p8 /\ p8<=255):∃ l,bA.f 4000 p0 p1 p2 p3 p4 p5 p6 p7 p8 p9 side n=some l /\ gJ l /\ l.length<=110 /\ ∀ a t pr i fl cr s d o b,Aw l=(a,t,pr,i,fl,cr,s,d,o,b,0) ->iX l 10=Fm a t pr i fl cr s d o b:=by
 obtain ⟨l,hl,hB,hn⟩:=KV 4000 (Nat.le_refl _) p0 p1 p2 p3 p4 p5 p6 p7 p8 p9 side n h0;obtain ⟨s,d,fr,tp,hs,hd,hfr,Zt,_,_,e⟩:=BR 4000 (Nat.le_refl _) p0 p1 p2 p3 p4 p5 p6 p7 p8 p9 side n h0;refine ⟨l,hl,hB,hn,fun a t pr i fl cr s' d' o b he=>U9 hB he ?_⟩;obtain ⟨_,_,_,_,_,AjR⟩:=AG hB he;rw [hl] at e
 have e:=cN e;have Qx:=(zw p0 h0).2;have Z4:U8 (if p7.tmod 5=4 then 1 else rd [17,6,1,17] (p0.tmod 4)):=by unfold U8;split<;>omega
 obtain ⟨t2,Iu,fl2,of2,o2,es,g1,g2,g3,g4,g5,g6,g7⟩:=Ot p6 (if p7.tmod 5=4 then 1 else rd [17,6,1,17] (p0.tmod 4)) Z4;rw [es] at e
 dsimp only at e
 generalize (if p7.tmod 5=4 then Im (rd [17,6,1,17] (p0.tmod 4)) s d fr tp p5 p8 else xI (rd [17,6,1,17] (p0.tmod 4)) s d fr tp p5 p8)=Y at e
 have hk:AF 0 t2 (IntKind.u16.wrap p8) fl2 of2 s d o2:=⟨MM,g1,XD h8,by omega,by omega,hs,hd,g5,g6,by omega⟩
 unfold bA.sp at e
 by_cases c1:p9.tmod 8=7
 ·rw [aq c1] at e
  by_cases c2:0<(cQ 0 t2 Iu (IntKind.u16.wrap p8) fl2 of2 s d o2 Y).length
  ·rw [aq c2] at e
   rw [e] at hB AjR|-
   exact Ql hk g2 hB AjR
  rw [av c2] at e
  rw [e];exact Lb hk g2
 rw [av c1] at e
 rw [e];exact Lb hk g2
end Go.Proofs.Ytkmimamminddiaa.Pure
namespace Go.Proofs.Ytkmimamminddiaa.PB
open Go.RowKit Go.Proofs.ah.bT Go.Proofs.ah.cY Go.Proofs.ah.iw
open Go.Proofs.Ytkmimamminddiaa.Spec Go.Proofs.Ytkmimamminddiaa.jJ
def inl.R4.T:Bool×List (List Nat×List Nat):=(true,[([],[]),([0],[0]),([],[]),([2],[2]),([0,1,2,3],[]),([4,1,3,0,1,2,3],[1,4])])
theorem inl.R4.tab:gB .any (opsOf Try.f12 4)=inl.R4.T:=by kernel_rfl
theorem inl.R4.bits:cS inl.R4.T.2 [0,1,0,4,15,31]=true:=by kernel_rfl
theorem rewriteInner.calls (p0 p1 p2 p3 p4 p5 p6 p7 p8 p9 side si ps di pd:Int) (raw:Bool) (w:World) (hp:0<=p0 /\ (0<=p8 /\ p8<=255) /\ (0<=p9 /\ p9<=255)) (h1:0<=si /\ si<=4294967295) (h2:0<=ps /\ ps<=65535) (h3:0<=di /\ di<=4294967295) (h4:0<=pd /\ pd<=65535):
  Calls Try.prog 12 #[.agg #[.int .u8 p0,.int .u8 p1,.int .u8 p2,.int .u8 p3,.int .u8 p4,.int .u8 p5,.int .u8 p6,.int .u8 p7,.int .u8 p8,.int .u8 p9],.int .u8 side,.agg #[.int .u32 si,.int .u16 ps],.agg #[.int .u32 di,.int .u16 pd],.bool raw] w fun e w'=>e= .returned (.bool true) /\ Below w.heap.size w w':=by
 have Aqn:=Try.underlying25;have mM:=Try.underlying65;have HB:=gI w;have Adg:aa ((Try.prog.info? 25).map (·.size)=some 10):=⟨by kernel_rfl⟩
 have iM:aa ((Try.prog.info? 65).map (·.size)=some 2):=⟨by kernel_rfl⟩
 cases raw with
 |false=>
  obtain ⟨b,hpk,hbB,UW,hck⟩:=Pure.Gc p0 p1 p2 p3 p4 p5 p6 4 p8 p9 (wrap64 (side.tmod 2)) 0 hp.1 hp.2.1;obtain ⟨r,hlk,hrl,zC,hgr,x,xe,hif,hrf⟩:=Pure.ES hbB (by omega) hck h1 h2 h3 h2;have Ad3:=aa.mk hp.2;have HPK:=aa.mk hpk;have HLK:=aa.mk hlk;have HRL:=aa.mk hrl;have HGP:=aa.mk zC;have HGR:=aa.mk hgr;have HIF:=aa.mk hif;have HRF:=aa.mk hrf;have HM:=aa.mk (Pure.OB hbB (by omega));clear hp h1 h2 h3 h4 hpk hlk hrl zC hgr hif hrf hbB UW hck
  go_enter Try.func12,Try.ntmps12
  go_upto_region 1 with (first|((with_reducible refine aA (N:=5) rfl ?_);refine aC ?fT (N:=5) ?iB (cs:= #[.int .u8 p0,.int .u8 p1,.int .u8 p2,.int .u8 p3,.int .u8 p4,.int .u8 p5,.int .u8 p6,.int .u8 p7,.int .u8 p8,.int .u8 p9]) (t:=25) ?eY ?_;(case iB=>rfl);(case fT=>rfl);(case eY=>first|(go_simp;done)|(go_simp;rfl));intro gk bV w1 bw cB;have AjT:=aa.mk (show w.heap.size<=gk by rw [bV];exact af HB.out);have tY:=aa.mk bw;have ai:=cB;replace HB:=mB HB ai;clear ai;clear bV bw cB)|((with_reducible refine aA (N:=7) rfl ?_);refine aC ?fT (N:=7) ?iB (cs:= #[.int .u32 si,.int .u16 ps]) (t:=65) ?eY ?_;(case iB=>rfl);(case fT=>rfl);(case eY=>first|(go_simp;done)|(go_simp;rfl));intro gs bV w2 bw cB;have G2:=aa.mk (show w.heap.size<=gs by rw [bV];exact af HB.out);have cT:=aa.mk bw;have ai:=cB;replace HB:=mB HB ai;replace tY:=mX tY ai;clear ai;clear bV bw cB)|((with_reducible refine aA (N:=8) rfl ?_);refine aC ?fT (N:=8) ?iB (cs:= #[.int .u32 di,.int .u16 pd]) (t:=65) ?eY ?_;(case iB=>rfl);(case fT=>rfl);(case eY=>first|(go_simp;done)|(go_simp;rfl));intro gd bV w3 bw cB;have Fb:=aa.mk (show w.heap.size<=gd by rw [bV];exact af HB.out);have cL:=aa.mk bw;have jA:aa (gs≠gd):=⟨by rw [bV];exact (cW cT).out⟩;have ai:=cB;replace HB:=mB HB ai;replace tY:=mX tY ai;replace cT:=mX cT ai;clear ai;clear bV bw cB))
  go_wp2_with fail
  refine (vP.calls _).mono ?_;rintro ev w4 ⟨rfl,hb⟩;have ai:=hb;replace HB:=mB HB ai;replace tY:=mX tY ai;replace cT:=mX cT ai;replace cL:=mX cL ai;clear ai;clear hb
  (try dsimp only)
  (try dsimp only)
  go_upto_region 4 with (fail)
  refine dB (n:=6) (S:=fun w'=>w'.cell? ⟨gs,1,none⟩=some (.int .u16 ps)) (ds:=[]) #[false,false,false,false,false,false] (by kernel_rfl) rfl rfl ((aN cT.out 1).trans rfl) (fun hHeld=> ?_);refine bF inl.R4.tab inl.R4.bits (fun ax eu=> ?_);have ai:=bf (Below.refl w4.heap.size w4);replace HB:=mB HB ai;replace tY:=mX tY ai;replace cT:=mX cT ai;replace cL:=mX cL ai;clear ai;generalize w4.drew=w5 at HB tY cT cL hHeld|-
  refine tg (i:=0) (N:=some 20) (v:= ?_) (a':= ?_) #[true,false,false,false,false,false] rfl rfl (rZ ax.out (by kernel_rfl)) (fun _ _ _ h=>h) (Or.inl ⟨by rfl, ?_⟩) ?_ ?_
  rotate_left
  ·intro w'
   go_simp
   with_reducible rfl
  rotate_left
  ·simp only [Act.put,List.setIfInBounds_toArray,List.set_cons_zero,List.set_cons_succ,gK,kD]
   rfl
  refine tg (i:=2) (N:=some 22) (v:= ?_) (a':= ?_) #[true,false,true,false,false,false] rfl rfl (rZ ax.out (by kernel_rfl)) (fun _ _ _ h=>h) (Or.inl ⟨by rfl, ?_⟩) ?_ ?_
  rotate_left
  ·intro w'
   go_simp
   with_reducible rfl
  rotate_left
  ·simp only [Act.put,List.setIfInBounds_toArray,List.set_cons_zero,List.set_cons_succ,gK,kD]
   rfl
  refine gF (i:=1) (N:=some 21) (v:= ?_) (a':= ?_) #[true,true,true,false,false,false] rfl rfl (dm ax.out eu.out (by kernel_rfl)) (fun _ _ _ h=>h) (Or.inl ⟨by rfl, ?_⟩) hHeld ?_ ?_
  rotate_left
  ·intro w' s0
   go_simp
   with_reducible rfl
  rotate_left
  ·simp only [Act.put,List.setIfInBounds_toArray,List.set_cons_zero,List.set_cons_succ,gK,kD]
   rfl
  refine QL (i:=3) (N:=none) #[true,true,true,true,false,false] rfl rfl (Gj ax.out (by kernel_rfl)) (by decide) (fun K hK=> ?_);refine iy (i:=7) (v:= .int .u8 4) (cs':= #[.int .u8 p0,.int .u8 p1,.int .u8 p2,.int .u8 p3,.int .u8 p4,.int .u8 p5,.int .u8 p6,.int .u8 4,.int .u8 p8,.int .u8 p9]) (by rfl) (by rfl) tY.out rfl (by (have m_:=(aN tY.out 7).trans (rfl:_=some (.int .u8 p7:Value)));(have pU:=ae tY.out 7);first|(go_simp;done)|(go_simp;rfl)) ?_;intro w6 hs_ ag;replace cT:=oX ag cT tY (by decide);replace cL:=oX ag cL tY (by decide);replace HB:=oB ag HB AjT;clear ag;replace tY:=aa.mk hs_;clear hs_;refine hK.out _ _ ((aN cT.out 1).trans rfl) (fun hHeld=> ?_);clear hK K
  refine tg (i:=4) (N:=some 23) (v:= ?_) (a':= ?_) #[true,true,true,true,true,false] rfl rfl (rZ ax.out (by kernel_rfl)) (fun _ _ _ h=>h) (Or.inl ⟨by rfl, ?_⟩) ?_ ?_
  rotate_left
  ·intro w'
   go_simp
   with_reducible rfl
  rotate_left
  ·simp only [Act.put,List.setIfInBounds_toArray,List.set_cons_zero,List.set_cons_succ,gK,kD]
   rfl
  refine QL (i:=5) (N:=none) #[true,true,true,true,true,true] rfl rfl (Gj ax.out (by kernel_rfl)) (by decide) (fun K hK=> ?_);refine iy (i:=1) (v:= .int .u16 ps) (cs':= #[.int .u32 di,.int .u16 ps]) (by rfl) (by rfl) cL.out rfl (by (have m_:=(aN cL.out 1).trans (rfl:_=some (.int .u16 pd:Value)));(have pU:=ae cL.out 1);first|(go_simp;done)|(go_simp;rfl)) ?_;intro w7 hs_ ag;replace tY:=oX ag tY cL (by decide);replace cT:=oN ag cT jA;replace HB:=oB ag HB Fb;clear ag;replace cL:=aa.mk hs_;clear hs_;refine hK.out _ _ ((aN cT.out 1).trans rfl) (fun hHeld=> ?_);clear hK K;refine QM (M0 ax.out (by kernel_rfl)) ?_;clear ax eu hHeld
  go_wp2_with (refine Kd.bU rfl (bM rfl rfl tY.out Try.underlying25 rfl Adg.out) ?_)
  refine (bA.calls 4000 p0 p1 p2 p3 p4 p5 p6 4 p8 p9 (wrap64 (side.tmod 2)) 0 b _ Ad3.out HPK.out).mono ?_;rintro ev w8 ⟨v_,rfl,ho,hb⟩;have bI:=aa.mk (Kd.bP ho (af HB.out));obtain ⟨Ab,cb,rfl,_,_⟩:=Kd.cj ho;clear ho;have ai:=hb;replace HB:=mB HB ai;replace tY:=mX tY ai;replace cT:=mX cT ai;replace cL:=mX cL ai;clear ai;clear hb
  (try dsimp only)
  go_wp2_with (first|(refine Kd.bU rfl (bM rfl rfl cT.out Try.underlying65 rfl iM.out) ?_)|(refine Kd.bU rfl (bM rfl rfl cL.out Try.underlying65 rfl iM.out) ?_))
  refine (yT.via 4000 Ab cb b r si ps di ps x xe _ (Kd.ay bI.out).2.2 (Kd.ay bI.out).2.1 (fun w2 h2=>iQ.calls 4000 _ _ _ _ _ h2 (Kd.ay bI.out).2.1 HLK.out) HGP.out HIF.out).mono ?_;rintro ev w9 ⟨v_,rfl,ho,hb⟩;have eB:=aa.mk (Kd.bP ho (af HB.out));obtain ⟨Ax,cx,rfl,_,_⟩:=Kd.cj ho;clear ho;have ai:=hb;replace HB:=mB HB ai;replace tY:=mX tY ai;replace cT:=mX cT ai;replace cL:=mX cL ai;replace bI:=mR bI ai;clear ai;clear hb
  (try dsimp only)
  go_wp2_with (first|(refine Kd.bU rfl (bM rfl rfl cT.out Try.underlying65 rfl iM.out) ?_)|(refine Kd.bU rfl (bM rfl rfl cL.out Try.underlying65 rfl iM.out) ?_))
  refine (UY.via 4000 Ab cb b r si ps di ps x xe _ (Kd.ay bI.out).2.2 (Kd.ay bI.out).2.1 (fun w2 h2=>BS.calls 4000 _ _ _ _ _ h2 (Kd.ay bI.out).2.1 HRL.out HM.out) HGR.out HRF.out).mono ?_;rintro ev ku ⟨v_,rfl,ho,hb⟩;have wR:=aa.mk (Kd.bP ho (af HB.out));obtain ⟨Ay,cy,rfl,_,_⟩:=Kd.cj ho;clear ho;have ai:=hb;replace HB:=mB HB ai;replace tY:=mX tY ai;replace cT:=mX cT ai;replace cL:=mX cL ai;replace bI:=mR bI ai;replace eB:=mR eB ai;clear ai;clear hb
  (try dsimp only)
  have z_:(xe==xe)=true:=beq_self_eq_true _
  go_wp2_with fail
  refine (mh.calls Ax cx x Ay cy x true _ (Kd.ay eB.out).2.2 (Kd.ay eB.out).2.1 (Kd.ay wR.out).2.2 (Kd.ay wR.out).2.1 (Eu x)).mono ?_;rintro ev w_ ⟨rfl,⟨nd,rfl⟩⟩;have ai:=dS (Below.refl ku.heap.size ku) nd;replace HB:=mB HB ai;replace tY:=mX tY ai;replace cT:=mX cT ai;replace cL:=mX cL ai;replace bI:=mR bI ai;replace eB:=mR eB ai;replace wR:=mR wR ai;clear ai;generalize ku.drewN nd=sn at HB tY cT cL bI eB wR|-
  (try dsimp only)
  go_wp2
  (try simp only [Exit.inBlock,Exit.then])
  go_ret
  exact ⟨rfl,HB.out⟩
 |true=>
  obtain ⟨b,hpk,hbB,UW,hck⟩:=Pure.Gc p0 p1 p2 p3 p4 p5 p6 p7 p8 p9 (wrap64 (side.tmod 2)) 0 hp.1 hp.2.1;obtain ⟨r,hlk,hrl,zC,hgr,x,xe,hif,hrf⟩:=Pure.ES hbB (by omega) hck h1 h2 h3 h4;have Ad3:=aa.mk hp.2;have HPK:=aa.mk hpk;have HLK:=aa.mk hlk;have HRL:=aa.mk hrl;have HGP:=aa.mk zC;have HGR:=aa.mk hgr;have HIF:=aa.mk hif;have HRF:=aa.mk hrf;have HM:=aa.mk (Pure.OB hbB (by omega));clear hp h1 h2 h3 h4 hpk hlk hrl zC hgr hif hrf hbB UW hck
  go_enter Try.func12,Try.ntmps12
  go_upto_region 1 with (first|((with_reducible refine aA (N:=5) rfl ?_);refine aC ?fT (N:=5) ?iB (cs:= #[.int .u8 p0,.int .u8 p1,.int .u8 p2,.int .u8 p3,.int .u8 p4,.int .u8 p5,.int .u8 p6,.int .u8 p7,.int .u8 p8,.int .u8 p9]) (t:=25) ?eY ?_;(case iB=>rfl);(case fT=>rfl);(case eY=>first|(go_simp;done)|(go_simp;rfl));intro gk bV w1 bw cB;have AjT:=aa.mk (show w.heap.size<=gk by rw [bV];exact af HB.out);have tY:=aa.mk bw;have ai:=cB;replace HB:=mB HB ai;clear ai;clear bV bw cB)|((with_reducible refine aA (N:=7) rfl ?_);refine aC ?fT (N:=7) ?iB (cs:= #[.int .u32 si,.int .u16 ps]) (t:=65) ?eY ?_;(case iB=>rfl);(case fT=>rfl);(case eY=>first|(go_simp;done)|(go_simp;rfl));intro gs bV w2 bw cB;have G2:=aa.mk (show w.heap.size<=gs by rw [bV];exact af HB.out);have cT:=aa.mk bw;have ai:=cB;replace HB:=mB HB ai;replace tY:=mX tY ai;clear ai;clear bV bw cB)|((with_reducible refine aA (N:=8) rfl ?_);refine aC ?fT (N:=8) ?iB (cs:= #[.int .u32 di,.int .u16 pd]) (t:=65) ?eY ?_;(case iB=>rfl);(case fT=>rfl);(case eY=>first|(go_simp;done)|(go_simp;rfl));intro gd bV w3 bw cB;have Fb:=aa.mk (show w.heap.size<=gd by rw [bV];exact af HB.out);have cL:=aa.mk bw;have jA:aa (gs≠gd):=⟨by rw [bV];exact (cW cT).out⟩;have ai:=cB;replace HB:=mB HB ai;replace tY:=mX tY ai;replace cT:=mX cT ai;clear ai;clear bV bw cB))
  go_wp2_with fail
  refine (vP.calls _).mono ?_;rintro ev w4 ⟨rfl,hb⟩;have ai:=hb;replace HB:=mB HB ai;replace tY:=mX tY ai;replace cT:=mX cT ai;replace cL:=mX cL ai;clear ai;clear hb
  (try dsimp only)
  go_wp2_with (refine Kd.bU rfl (bM rfl rfl tY.out Try.underlying25 rfl Adg.out) ?_)
  refine (bA.calls 4000 p0 p1 p2 p3 p4 p5 p6 p7 p8 p9 (wrap64 (side.tmod 2)) 0 b _ Ad3.out HPK.out).mono ?_;rintro ev w5 ⟨v_,rfl,ho,hb⟩;have bI:=aa.mk (Kd.bP ho (af HB.out));obtain ⟨Ab,cb,rfl,_,_⟩:=Kd.cj ho;clear ho;have ai:=hb;replace HB:=mB HB ai;replace tY:=mX tY ai;replace cT:=mX cT ai;replace cL:=mX cL ai;clear ai;clear hb
  (try dsimp only)
  go_wp2_with (first|(refine Kd.bU rfl (bM rfl rfl cT.out Try.underlying65 rfl iM.out) ?_)|(refine Kd.bU rfl (bM rfl rfl cL.out Try.underlying65 rfl iM.out) ?_))
  refine (yT.via 4000 Ab cb b r si ps di pd x xe _ (Kd.ay bI.out).2.2 (Kd.ay bI.out).2.1 (fun w2 h2=>iQ.calls 4000 _ _ _ _ _ h2 (Kd.ay bI.out).2.1 HLK.out) HGP.out HIF.out).mono ?_;rintro ev w6 ⟨v_,rfl,ho,hb⟩;have eB:=aa.mk (Kd.bP ho (af HB.out));obtain ⟨Ax,cx,rfl,_,_⟩:=Kd.cj ho;clear ho;have ai:=hb;replace HB:=mB HB ai;replace tY:=mX tY ai;replace cT:=mX cT ai;replace cL:=mX cL ai;replace bI:=mR bI ai;clear ai;clear hb
  (try dsimp only)
  go_wp2_with (first|(refine Kd.bU rfl (bM rfl rfl cT.out Try.underlying65 rfl iM.out) ?_)|(refine Kd.bU rfl (bM rfl rfl cL.out Try.underlying65 rfl iM.out) ?_))
  refine (UY.via 4000 Ab cb b r si ps di pd x xe _ (Kd.ay bI.out).2.2 (Kd.ay bI.out).2.1 (fun w2 h2=>BS.calls 4000 _ _ _ _ _ h2 (Kd.ay bI.out).2.1 HRL.out HM.out) HGR.out HRF.out).mono ?_;rintro ev w7 ⟨v_,rfl,ho,hb⟩;have wR:=aa.mk (Kd.bP ho (af HB.out));obtain ⟨Ay,cy,rfl,_,_⟩:=Kd.cj ho;clear ho;have ai:=hb;replace HB:=mB HB ai;replace tY:=mX tY ai;replace cT:=mX cT ai;replace cL:=mX cL ai;replace bI:=mR bI ai;replace eB:=mR eB ai;clear ai;clear hb
  (try dsimp only)
  have z_:(xe==xe)=true:=beq_self_eq_true _
  go_wp2_with fail
  refine (mh.calls Ax cx x Ay cy x true _ (Kd.ay eB.out).2.2 (Kd.ay eB.out).2.1 (Kd.ay wR.out).2.2 (Kd.ay wR.out).2.1 (Eu x)).mono ?_;rintro ev w_ ⟨rfl,⟨nd,rfl⟩⟩;have ai:=dS (Below.refl w7.heap.size w7) nd;replace HB:=mB HB ai;replace tY:=mX tY ai;replace cT:=mX cT ai;replace cL:=mX cL ai;replace bI:=mR bI ai;replace eB:=mR eB ai;replace wR:=mR wR ai;clear ai;generalize w7.drewN nd=w8 at HB tY cT cL bI eB wR|-
  (try dsimp only)
  go_wp2
  (try simp only [Exit.inBlock,Exit.then])
  go_ret
  exact ⟨rfl,HB.out⟩
end Go.Proofs.Ytkmimamminddiaa.PB
namespace Go.Proofs.ah.zI
open Go.Joins Go.ChangeShapes Go.WideShapes Go.RowKit Go.Deep
theorem wH {l p:List Value} {a k b:Nat} (h:(l.drop a).take k=p) (hb:a+k=b):l.drop a=p++l.drop b:=by
 have h1:=(List.take_append_drop k (l.drop a)).symm;rw [h,List.drop_drop,hb] at h1
 exact h1
section
variable {H:Type} {enc:TypeId×Value ->H} {w:World} {base:Nat} {spare:Nat ->Bool} {held:Bool}
theorem Qm {r:Reach} {b0:Nat} {v:Value} {d:DataW H} {p:List MemPlace} (hv:Value.okWide Try.prog w r b0 25 v) (h:DataW.Trod enc Try.prog w base spare held 25 v d p):
  ∃ x0 x1 x2 x3 x4 x5 x6 x7 x8 x9:Int,v= .agg #[.int .u8 x0,.int .u8 x1,.int .u8 x2,.int .u8 x3,.int .u8 x4,.int .u8 x5,.int .u8 x6,.int .u8 x7,.int .u8 x8,.int .u8 x9] /\ (Lit.int .u8 x0).wf=true /\ (Lit.int .u8 x1).wf=true /\ (Lit.int .u8 x2).wf=true /\ (Lit.int .u8 x3).wf=true /\ (Lit.int .u8 x4).wf=true /\ (Lit.int .u8 x5).wf=true /\ (Lit.int .u8 x6).wf=true /\ (Lit.int .u8 x7).wf=true /\ (Lit.int .u8 x8).wf=true /\ (Lit.int .u8 x9).wf=true:=by
 have k5:Try.prog.cellsOf 5=1:=by kernel_rfl
 have kT:Try.prog.cellsOf 25=10:=by kernel_rfl
 obtain ⟨cs,rfl,hsz⟩:=okWide_struct Try.underlying25 hv;obtain ⟨l⟩:=cs;obtain ⟨fuel,hf⟩:=h;obtain ⟨xs,n,_,hx,hlc,hlen,hg⟩:=DataW.trod_struct Try.underlying25 hf;have hl:l.length=10:=hlc.trans kT;have g0:DataW.trod enc Try.prog w base spare held n 5 ((l.drop 0).take (Try.prog.cellsOf 5))=xs[0]?:=hg 0 _ rfl;obtain ⟨y0,hy0⟩:∃ y,xs[0]?=some y:=⟨_,List.getElem?_eq_getElem (by rw [hlen];decide)⟩
 rw [hy0,k5] at g0
 obtain ⟨x0,e0,_,w0⟩:=DataW.trod_int Try.underlying5 g0;have g1:DataW.trod enc Try.prog w base spare held n 5 ((l.drop 1).take (Try.prog.cellsOf 5))=xs[1]?:=hg 1 _ rfl;obtain ⟨y1,hy1⟩:∃ y,xs[1]?=some y:=⟨_,List.getElem?_eq_getElem (by rw [hlen];decide)⟩
 rw [hy1,k5] at g1
 obtain ⟨x1,e1,_,w1⟩:=DataW.trod_int Try.underlying5 g1;have g2:DataW.trod enc Try.prog w base spare held n 5 ((l.drop 2).take (Try.prog.cellsOf 5))=xs[2]?:=hg 2 _ rfl;obtain ⟨y2,hy2⟩:∃ y,xs[2]?=some y:=⟨_,List.getElem?_eq_getElem (by rw [hlen];decide)⟩
 rw [hy2,k5] at g2
 obtain ⟨x2,e2,_,w2⟩:=DataW.trod_int Try.underlying5 g2;have g3:DataW.trod enc Try.prog w base spare held n 5 ((l.drop 3).take (Try.prog.cellsOf 5))=xs[3]?:=hg 3 _ rfl;obtain ⟨y3,hy3⟩:∃ y,xs[3]?=some y:=⟨_,List.getElem?_eq_getElem (by rw [hlen];decide)⟩
 rw [hy3,k5] at g3
 obtain ⟨x3,e3,_,w3⟩:=DataW.trod_int Try.underlying5 g3;have g4:DataW.trod enc Try.prog w base spare held n 5 ((l.drop 4).take (Try.prog.cellsOf 5))=xs[4]?:=hg 4 _ rfl;obtain ⟨y4,hy4⟩:∃ y,xs[4]?=some y:=⟨_,List.getElem?_eq_getElem (by rw [hlen];decide)⟩
 rw [hy4,k5] at g4
 obtain ⟨x4,e4,_,w4⟩:=DataW.trod_int Try.underlying5 g4;have g5:DataW.trod enc Try.prog w base spare held n 5 ((l.drop 5).take (Try.prog.cellsOf 5))=xs[5]?:=hg 5 _ rfl;obtain ⟨y5,hy5⟩:∃ y,xs[5]?=some y:=⟨_,List.getElem?_eq_getElem (by rw [hlen];decide)⟩
 rw [hy5,k5] at g5
 obtain ⟨x5,e5,_,w5⟩:=DataW.trod_int Try.underlying5 g5;have g6:DataW.trod enc Try.prog w base spare held n 5 ((l.drop 6).take (Try.prog.cellsOf 5))=xs[6]?:=hg 6 _ rfl;obtain ⟨y6,hy6⟩:∃ y,xs[6]?=some y:=⟨_,List.getElem?_eq_getElem (by rw [hlen];decide)⟩
 rw [hy6,k5] at g6
 obtain ⟨x6,e6,_,w6⟩:=DataW.trod_int Try.underlying5 g6;have g7:DataW.trod enc Try.prog w base spare held n 5 ((l.drop 7).take (Try.prog.cellsOf 5))=xs[7]?:=hg 7 _ rfl;obtain ⟨y7,hy7⟩:∃ y,xs[7]?=some y:=⟨_,List.getElem?_eq_getElem (by rw [hlen];decide)⟩
 rw [hy7,k5] at g7
 obtain ⟨x7,e7,_,w7⟩:=DataW.trod_int Try.underlying5 g7;have g8:DataW.trod enc Try.prog w base spare held n 5 ((l.drop 8).take (Try.prog.cellsOf 5))=xs[8]?:=hg 8 _ rfl;obtain ⟨y8,hy8⟩:∃ y,xs[8]?=some y:=⟨_,List.getElem?_eq_getElem (by rw [hlen];decide)⟩
 rw [hy8,k5] at g8
 obtain ⟨x8,e8,_,w8⟩:=DataW.trod_int Try.underlying5 g8;have g9:DataW.trod enc Try.prog w base spare held n 5 ((l.drop 9).take (Try.prog.cellsOf 5))=xs[9]?:=hg 9 _ rfl;obtain ⟨y9,hy9⟩:∃ y,xs[9]?=some y:=⟨_,List.getElem?_eq_getElem (by rw [hlen];decide)⟩
 rw [hy9,k5] at g9
 obtain ⟨x9,e9,_,w9⟩:=DataW.trod_int Try.underlying5 g9;have hd:l=l.drop 0:=rfl;rw [wH e0 (show 0+1=1 from rfl),wH e1 (show 1+1=2 from rfl),wH e2 (show 2+1=3 from rfl),wH e3 (show 3+1=4 from rfl),wH e4 (show 4+1=5 from rfl),wH e5 (show 5+1=6 from rfl),wH e6 (show 6+1=7 from rfl),wH e7 (show 7+1=8 from rfl),wH e8 (show 8+1=9 from rfl),wH e9 (show 9+1=10 from rfl),List.drop_eq_nil_of_le (show l.length<=10 by omega)] at hd
 subst hd;exact ⟨x0,x1,x2,x3,x4,x5,x6,x7,x8,x9,rfl,w0,w1,w2,w3,w4,w5,w6,w7,w8,w9⟩
theorem EU {r:Reach} {b0:Nat} {v:Value} {d:DataW H} {p:List MemPlace} (hv:Value.okWide Try.prog w r b0 65 v) (h:DataW.Trod enc Try.prog w base spare held 65 v d p):
  ∃ x0 x1:Int,v= .agg #[.int .u32 x0,.int .u16 x1] /\ (Lit.int .u32 x0).wf=true /\ (Lit.int .u16 x1).wf=true:=by
 have k27:Try.prog.cellsOf 27=1:=by kernel_rfl
 have k45:Try.prog.cellsOf 45=1:=by kernel_rfl
 have kT:Try.prog.cellsOf 65=2:=by kernel_rfl
 obtain ⟨cs,rfl,hsz⟩:=okWide_struct Try.underlying65 hv;obtain ⟨l⟩:=cs;obtain ⟨fuel,hf⟩:=h;obtain ⟨xs,n,_,hx,hlc,hlen,hg⟩:=DataW.trod_struct Try.underlying65 hf;have hl:l.length=2:=hlc.trans kT;have g0:DataW.trod enc Try.prog w base spare held n 27 ((l.drop 0).take (Try.prog.cellsOf 27))=xs[0]?:=hg 0 _ rfl;obtain ⟨y0,hy0⟩:∃ y,xs[0]?=some y:=⟨_,List.getElem?_eq_getElem (by rw [hlen];decide)⟩
 rw [hy0,k27] at g0
 obtain ⟨x0,e0,_,w0⟩:=DataW.trod_int Try.underlying27 g0;have g1:DataW.trod enc Try.prog w base spare held n 45 ((l.drop 1).take (Try.prog.cellsOf 45))=xs[1]?:=hg 1 _ rfl;obtain ⟨y1,hy1⟩:∃ y,xs[1]?=some y:=⟨_,List.getElem?_eq_getElem (by rw [hlen];decide)⟩
 rw [hy1,k45] at g1
 obtain ⟨x1,e1,_,w1⟩:=DataW.trod_int Try.underlying45 g1;have hd:l=l.drop 0:=rfl;rw [wH e0 (show 0+1=1 from rfl),wH e1 (show 1+1=2 from rfl),List.drop_eq_nil_of_le (show l.length<=2 by omega)] at hd
 subst hd;exact ⟨x0,x1,rfl,w0,w1⟩
end
end Go.Proofs.ah.zI
