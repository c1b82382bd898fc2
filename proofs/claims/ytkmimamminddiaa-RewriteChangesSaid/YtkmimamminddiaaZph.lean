/- Texts of this claim, merged: RwRlk0, RwRlk, RwLkE, RwRch0, RwRch, RwChE, RwChanges, RwAgg. -/
import Derived.Test.YtkmimamminddiaaZpb
import Derived.Test.YtkmimamminddiaaZpd
import Derived.Test.YtkmimamminddiaaZpg
import Derived.Test.YtkmimamminddiaaZpf
import Derived.Deep.Cut
import Derived.Deep.CutRange
import Derived.Deep.CutBlock
import Derived.Deep.WholeRow
import Derived.Test.YtkmimamminddiaaZpe
import Derived.Test.YtkmimamminddiaaZpa
import Derived.Test.YtkmimamminddiaaChecked
import Derived.OpenShut
import Derived.ChangeArms
set_option maxHeartbeats 40000000
set_option maxRecDepth 100000
set_option linter.unusedVariables false
set_option linter.unusedSimpArgs false
namespace Go.Proofs.Ytkmimamminddiaa.PB
open Go.RowKit Go.Proofs.ai.bX Go.Proofs.ai.dh Go.Proofs.ai.iL
open Go.Proofs.Ytkmimamminddiaa.Spec Go.Proofs.Ytkmimamminddiaa.Pure
def Eb (k:Nat) (a t i fl dM s d:Int) (o b:List Int):Option LK:=
 (lY.f b).bind fun ⟨us,ud,uc,ub,e⟩=>(ke.f k s d us ud uc ub).bind fun r=>if e=0 then (if r=true then some ⟨a,t,17,i,fl,dM,s,d,o,b,.udp us ud uc ub,us,ud,0,[],0⟩ else some (LK.err 22)) else some (LK.err e)
def Ec (k:Nat) (a t i fl dM s d:Int) (o b:List Int):Option LK:=
 (fZ.f b).bind fun ⟨ts,td,tq,ta,tf,tw,tc,tu,nf,tb,e⟩=>(j9.f k s d ts td tq ta tf tw tc tu nf tb).bind fun r=>if e=0 then (if r=true then some ⟨a,t,6,i,fl,dM,s,d,o,b,.tcp ts td tq ta tf tw tc tu nf tb,ts,td,tf,[],0⟩ else some (LK.err 22)) else some (LK.err e)
def zZ (k:Nat) (a t i fl dM s d:Int) (o b:List Int):Option LK:=
 (eS.f b).bind fun ⟨mt,mc,ms,mr,mb,e⟩=>(jF.f k mt mc ms mr mb).bind fun r=>if e=0 then (if r=true then
  (ng.f mt mc ms mr mb).bind fun ec=>if ec=true then some ⟨a,t,1,i,fl,dM,s,d,o,b,.wC mt mc ms mr mb,mr / 65536 % 65536,mr / 65536 % 65536,0,[],0⟩
  else (mF.f mt mc ms mr mb).bind fun er=>if er=true then (if (yS mb).2.2.2.2=true then some ⟨a,t,1,i,fl,dM,s,d,o,b,.wC mt mc ms mr mb,0,0,0,[(yS mb).1,(yS mb).2.1],0⟩ else some (LK.err 21)) else some (LK.err 21)
  else some (LK.err 22)) else some (LK.err e)
def Ed.f (k:Nat) (l:List Int):Option LK:=
 (bB.f k l).bind fun ⟨a,t,pr,i,fl,dM,s,d,o,b,e⟩=>if e=0 then
  if pr=17 then Eb k a t i fl dM s d o b else if pr=6 then Ec k a t i fl dM s d o b else if pr=1 then zZ k a t i fl dM s d o b else some (LK.err 21)
 else some (LK.err e)
theorem S5 {P:Program} {ops:Array Oper} {rest:List Oper} {o:Oper} {a:Act} {Q:Exit ->Act ->World ->Prop} {W:World} (hgd:o.guard=none) {N:Tmp} (hd:o.dst=some N) (x y:nj) (hrun:(execOp a.eval o).run P W= .ok (.value (.slice (some ⟨W.heap.size,0,none⟩) 2 2)) (W.alloc (.cells #[.int .u32 x.f0,.int .u16 x.f1,.int .u32 y.f0,.int .u16 y.f1] 65)))
  (h:∀ A c w1,Kd.R EG 65 w1 W.heap.size (fun _=>True) (.slice A ([x,y]:List nj).length c) [x,y] ->Below W.heap.size W w1 ->wpList P ops Q rest (a.put o.dst (.slice A ([x,y]:List nj).length c)) w1):wpList P ops Q (o::rest) a W:=
 Kd.qq EG W.heap.size 65 hgd hd (xs:=[x,y]) (inner:=[.int .u32 x.f0,.int .u16 x.f1,.int .u32 y.f0,.int .u16 y.f1]) (ok:=fun _=>True) (rq:=fun _=>True) hrun
  (cI.c2 (show Kd.M EG _ _ _ x [.int .u32 x.f0,.int .u16 x.f1] from xD _ _ _ x) (cI.c2 (show Kd.M EG _ _ _ y [.int .u32 y.f0,.int .u16 y.f1] from xD _ _ _ y) (cI.none _ _))) (fun _ h=>h) trivial (Below.refl _ _) (Nat.le_refl _) (by simp) (fun v1 w1 ho hb hg _=>by
  obtain ⟨A,c,rfl,_,_⟩:=Kd.bW ho
  exact h A c w1 ho hb)
def rlk.R11.T:Bool×List (List Nat×List Nat):=(true,[([],[]),([0],[0]),([],[]),([2],[2]),([0,1],[]),([4,0,1],[4]),([5,1,0,1],[1,5]),([0,1,2,3,4,5,6],[]),([7,0,1,2,3,4,5,6],[7]),([8,3,6,0,1,2,3,4,5,6],[3,8])])
theorem rlk.R11.tab:gS .any (opsOf Try.f66 11)=rlk.R11.T:=by kernel_rfl
theorem rlk.R11.bits:dN rlk.R11.T.2 [0,1,0,4,3,19,51,127,255,511]=true:=by kernel_rfl
def rlk.Pg.T:Bool×List (List Nat×List Nat):=(true,[([],[]),([],[]),([0,0],[0]),([1,2,0,1,2],[1]),([3,0,1,2,3],[])])
theorem rlk.Pg.tab:gS .any (opsOf Try.f66 32)=rlk.Pg.T:=by kernel_rfl
theorem rlk.Pg.bits:dN rlk.Pg.T.2 [0,0,1,7,15]=true:=by kernel_rfl
def rlk.R15.T:Bool×List (List Nat×List Nat):=(true,[([],[]),([0],[0]),([],[]),([2],[2]),([],[]),([4],[4]),([0,1],[]),([6,0,1],[6]),([7,1,0,1],[1,7]),([0,1,2,3,6,7,8],[]),([9,0,1,2,3,6,7,8],[9]),([10,3,8,0,1,2,3,6,7,8],[3,10]),([0,1,2,3,4,5,6,7,8,9,10,11],[]),([12,5,11,0,1,2,3,4,5,6,7,8,9,10,11],[5,12])])
theorem rlk.R15.tab:gS .any (opsOf Try.f66 15)=rlk.R15.T:=by kernel_rfl
theorem rlk.R15.bits:dN rlk.R15.T.2 [0,1,0,4,0,16,3,67,195,463,975,1999,4095,8191]=true:=by kernel_rfl
def rlk.R22.T:Bool×List (List Nat×List Nat):=(true,[([],[]),([0],[0]),([1],[1]),([2],[2]),([],[]),([4],[4]),([5],[5]),([6],[6]),([0,1,2,3],[]),([8,0,1,2,3],[8]),([9,3,0,1,2,3],[3,9]),([0,1,2,3,4,5,6,7,8,9,10],[]),([11,0,1,2,3,4,5,6,7,8,9,10],[11]),([12,7,10,0,1,2,3,4,5,6,7,8,9,10],[7,12])])
theorem rlk.R22.tab:gS .any (opsOf Try.f66 22)=rlk.R22.T:=by kernel_rfl
theorem rlk.R22.bits:dN rlk.R22.T.2 [0,1,3,7,0,16,48,112,15,271,783,2047,4095,8191]=true:=by kernel_rfl
theorem rlk.udp (k:Nat) (A:Option Addr) (c:Nat) (l:List Int) (a t i fl dM s d:Int) (o b:List Int) (r:LK) (w:World) (hC:Kd.C (Kd.int .u8) w A l.length l) (hL:l.length<=c) (hP:bB.f k l=some (a,t,17,i,fl,dM,s,d,o,b,0)) (h:Eb k a t i fl dM s d o b=some r):
  Calls Try.prog 66 #[.slice A l.length c] w fun e w'=>r.Told w.heap.size w e w':=by
 have iQ:=Try.underlying65;have jb:=Try.underlying73;have nS:=Try.underlying124;have wB:=Try.underlying83;have HB:=gj w;have HC:=aa.mk hC;have HL:=aa.mk hL;have HP:=aa.mk hP;have HF:=aa.mk h;have fL:aa ((Try.prog.info? 65).map (·.size)=some 2):=⟨by kernel_rfl⟩
 have eI:aa ((Try.prog.info? 73).map (·.size)=some 10):=⟨by kernel_rfl⟩
 have iT:aa ((Try.prog.info? 124).map (·.size)=some 7):=⟨by kernel_rfl⟩
 have qB:aa ((Try.prog.info? 83).map (·.size)=some 4):=⟨by kernel_rfl⟩
 clear hC hL hP h
 go_enter Try.func66,Try.ntmps66
 go_upto_region 1 with (first|((with_reducible refine aA (N:=2) rfl ?_);refine aC ?gJ (N:=2) ?iS (cs:= #[.int .u8 0,.int .u8 0,.int .u8 0,.int .u16 0,.int .u8 0,.int .u16 0,.int .u32 0,.int .u32 0,.slice none 0 0,.slice none 0 0]) (t:=73) ?fq ?_;(case iS=>rfl);(case gJ=>rfl);(case fq=>first|(go_simp;done)|(go_simp;rfl));intro gi cv w1 bJ cP;have ld:=aa.mk (show w.heap.size<=gi by rw [cv];exact af HB.out);have bg:=aa.mk bJ;have ah:=cP;replace HB:=mB HB ah;clear ah;clear cv bJ cP)|((with_reducible refine aA (N:=3) rfl ?_);refine aC ?gJ (N:=3) ?iS (cs:= #[.int .u8 0,.int .u32 0,.int .u16 0,.int .u32 0,.int .u16 0,.int .u8 0,.slice none 0 0]) (t:=124) ?fq ?_;(case iS=>rfl);(case gJ=>rfl);(case fq=>first|(go_simp;done)|(go_simp;rfl));intro gq cv w2 bJ cP;have mT:=aa.mk (show w.heap.size<=gq by rw [cv];exact af HB.out);have bu:=aa.mk bJ;have ah:=cP;replace HB:=mB HB ah;replace bg:=mX bg ah;clear ah;clear cv bJ cP))
 go_wp2_with fail
 refine (bB.calls k A c l a t 17 i fl dM s d o b 0 _ (Kd.aU HC.out HB.out) HL.out HP.out).mono ?_;rintro ev w3 ⟨vo,vb,rfl,ho,qn,hb⟩;have bQ:=lD ho HB;obtain ⟨Ao,co,rfl,_,_⟩:=Kd.bW ho;clear ho;have bC:=lD qn HB;obtain ⟨Ab,cb,rfl,_,_⟩:=Kd.bW qn;clear qn;have ah:=hb;replace HB:=mB HB ah;replace bg:=mX bg ah;replace bu:=mX bu ah;clear ah;clear hb HP HC HL
 (try dsimp only)
 go_upto_region 2 with (((refine eu rfl rfl rfl rfl rfl eI.out rfl (by simp [Value.oneCell']) ?_);intro fB gH cO))
 revert fB gH cO;intro w4 gH cO;have aT:aa (w4.heap[w3.heap.size]?=some (.cells #[.int .u8 a,.int .u8 t,.int .u8 17,.int .u16 i,.int .u8 fl,.int .u16 dM,.int .u32 s,.int .u32 d,.slice Ao o.length co,.slice Ab b.length cb] 73 (0,0))):=⟨gH⟩
 have lE:=wN HB;have cD:=dJ bg;have ah:=cO;replace HB:=mB HB ah;replace bg:=mX bg ah;replace bu:=mX bu ah;replace bQ:=mR bQ ah;replace bC:=mR bC ah;clear ah;clear gH cO;generalize w3.heap.size=gp at aT lE cD|-
 have nl:=cz aT.out 2 rfl;have su:=cz aT.out 6 rfl;have sM:=cz aT.out 7 rfl
 go_upto_region 5 with (((refine eu rfl rfl rfl rfl rfl iT.out rfl (by simp [Value.oneCell']) ?_);intro fB gH cO))
 clear nl su sM;revert fB gH cO;intro w5 gH cO;have bI:aa (w5.heap[w4.heap.size]?=some (.cells #[.int .u8 17,.int .u32 s,.int .u16 0,.int .u32 d,.int .u16 0,.int .u8 0,.slice none 0 0] 124 (0,0))):=⟨gH⟩
 have nJ:=wN HB;have cg:=dJ bu;have ah:=cO;replace HB:=mB HB ah;replace bg:=mX bg ah;replace bu:=mX bu ah;replace bQ:=mR bQ ah;replace bC:=mR bC ah;replace aT:=mX aT ah;clear ah;clear gH cO;generalize w4.heap.size=gf at bI nJ cg|-
 have H:=HF.out;clear HF;unfold Eb at H
 obtain ⟨⟨us,ud,uc,ub,e2⟩,hp,H⟩:=bV H;dsimp only at H
 obtain ⟨rt,hr,H⟩:=bV H;have HG:=aa.mk H;clear H;have HQ:=aa.mk hp;have HW:=aa.mk hr;clear hp hr;have nl:=cz aT.out 2 rfl;have ux:=cz aT.out 9 rfl
 go_wp2_with fail
 clear nl ux;refine (lY.calls Ab cb b us ud uc ub e2 _ (Kd.av bC.out).2.2 (Kd.av bC.out).2.1 HQ.out).mono ?_;rintro ev w6 ⟨vub,rfl,Oi,hb⟩;have dS:=lD Oi HB;obtain ⟨De,Df,rfl,_,_⟩:=Kd.bW Oi;clear Oi;have ah:=hb;replace HB:=mB HB ah;replace bg:=mX bg ah;replace bu:=mX bu ah;replace bQ:=mR bQ ah;replace bC:=mR bC ah;replace aT:=mX aT ah;replace bI:=mX bI ah;clear ah;clear hb
 (try dsimp only)
 go_upto_region 10 with (((refine eu rfl rfl rfl rfl rfl qB.out rfl (by simp [Value.oneCell']) ?_);intro fB gH cO))
 revert fB gH cO;intro w7 gH cO;have bR:aa (w7.heap[w6.heap.size]?=some (.cells #[.int .u16 us,.int .u16 ud,.int .u16 uc,.slice De ub.length Df] 83 (0,0))):=⟨gH⟩
 have lR:=wN HB;have ah:=cO;replace HB:=mB HB ah;replace bg:=mX bg ah;replace bu:=mX bu ah;replace bQ:=mR bQ ah;replace bC:=mR bC ah;replace aT:=mX aT ah;replace bI:=mX bI ah;replace dS:=mR dS ah;clear ah;clear gH cO;generalize w6.heap.size=gu at bR lR|-
 have su:=cz aT.out 6 rfl;have sM:=cz aT.out 7 rfl
 go_wp2_with (refine Kd.bL rfl (br rfl rfl bR.out Try.underlying83 rfl qB.out) ?_)
 clear su sM;refine (ke.calls k s d us ud uc De Df ub rt _ (Kd.av dS.out).2.2 (Kd.av dS.out).2.1 HW.out).mono ?_;rintro ev w8 ⟨rfl,hb⟩;have ah:=hb;replace HB:=mB HB ah;replace bg:=mX bg ah;replace bu:=mX bu ah;replace bQ:=mR bQ ah;replace bC:=mR bC ah;replace aT:=mX aT ah;replace bI:=mX bI ah;replace dS:=mR dS ah;replace bR:=mX bR ah;clear ah;clear hb HQ HW
 (try dsimp only)
 go_upto_region 11 with (fail)
 refine dg (n:=10) (S:=fun w'=>w'.cell? ⟨gu,0,none⟩=some (.int .u16 us) /\ w'.cell? ⟨gu,1,none⟩=some (.int .u16 ud)) (ds:=[]) #[false,false,false,false,false,false,false,false,false,false] (by kernel_rfl) rfl rfl ⟨((aE bR.out 0).trans rfl),((aE bR.out 1).trans rfl)⟩ (fun hHeld=> ?_);refine bH rlk.R11.tab rlk.R11.bits (fun az dW=> ?_);have ah:=bf (Below.refl w8.heap.size w8);replace HB:=mB HB ah;replace bg:=mX bg ah;replace bu:=mX bu ah;replace bQ:=mR bQ ah;replace bC:=mR bC ah;replace aT:=mX aT ah;replace bI:=mX bI ah;replace dS:=mR dS ah;replace bR:=mX bR ah;clear ah;generalize w8.drew=w9 at HB bg bu bQ bC aT bI dS bR hHeld|-
 refine pz 0 58 az ?_;refine pz 2 60 az ?_;refine tz 1 59 az dW hHeld ?_;refine pz 4 62 az ?_;refine pz 5 63 az ?_;refine tz 3 61 az dW hHeld ?_;refine oz 6 (none) az (fun K hK=> ?_);refine fK (i:=2) (v:= .int .u16 us) (cs':= #[.int .u8 17,.int .u32 s,.int .u16 us,.int .u32 d,.int .u16 0,.int .u8 0,.slice none 0 0]) (by rfl) (by rfl) bI.out rfl (by (have m_:=(aE bI.out 2).trans (rfl:_=some (.int .u16 0:Value)));(have nY:=ae bI.out 2);first|(go_simp;done)|(go_simp;rfl)) ?_;intro j4 hs_ ag;replace bg:=oX ag bg bI (by decide);replace bu:=oN ag bu cg;replace bQ:=oR ag bQ bI (by decide);replace bC:=oR ag bC bI (by decide);replace aT:=oX ag aT bI (by decide);replace dS:=oR ag dS bI (by decide);replace bR:=oX ag bR bI (by decide)
 replace HB:=oB ag HB nJ;clear ag;replace bI:=aa.mk hs_;clear hs_;refine hK.out _ _ ⟨((aE bR.out 0).trans rfl),((aE bR.out 1).trans rfl)⟩ (fun hHeld=> ?_);clear hK K;refine pz 7 64 az ?_;refine pz 8 65 az ?_;refine oz 9 (none) az (fun K hK=> ?_);refine fK (i:=4) (v:= .int .u16 ud) (cs':= #[.int .u8 17,.int .u32 s,.int .u16 us,.int .u32 d,.int .u16 ud,.int .u8 0,.slice none 0 0]) (by rfl) (by rfl) bI.out rfl (by (have m_:=(aE bI.out 4).trans (rfl:_=some (.int .u16 0:Value)));(have nY:=ae bI.out 4);first|(go_simp;done)|(go_simp;rfl)) ?_;intro qf hs_ ag;replace bg:=oX ag bg bI (by decide);replace bu:=oN ag bu cg;replace bQ:=oR ag bQ bI (by decide);replace bC:=oR ag bC bI (by decide);replace aT:=oX ag aT bI (by decide)
 replace dS:=oR ag dS bI (by decide);replace bR:=oX ag bR bI (by decide);replace HB:=oB ag HB nJ;clear ag;replace bI:=aa.mk hs_;clear hs_;refine hK.out _ _ ⟨((aE bR.out 0).trans rfl),((aE bR.out 1).trans rfl)⟩ (fun hHeld=> ?_);clear hK K;refine dz az ?_;clear az dW hHeld;have H:=HG.out;clear HG
 by_cases ce:e2=0
 ·have Bl:(e2==0)=true:=fH ce
  have Je:(e2 !=0)=false:=by rw [bne,Bl];rfl
  rw [au ce] at H
  clear ce
  cases rt with
  |false=>
   rw [ax (by decide)] at H
   obtain rfl:=cS H
   (try dsimp only)
   go_wp2_with (first|((refine dO rfl rfl rfl rfl rfl bg.out eI.out rfl (by simp [Value.oneCell']) ?_);intro l5 hs_ ag;replace bu:=oX ag bu bg (by decide);replace bQ:=oR ag bQ bg (by decide);replace bC:=oR ag bC bg (by decide);replace aT:=oN ag aT (bD cD);replace bI:=oX ag bI bg (by decide);replace dS:=oR ag dS bg (by decide);replace bR:=oX ag bR bg (by decide);replace HB:=oB ag HB ld;clear ag;replace bg:=aa.mk hs_;clear hs_)|((refine dO rfl rfl rfl rfl rfl bu.out iT.out rfl (by simp [Value.oneCell']) ?_);intro sR hs_ ag;replace bg:=oX ag bg bu (by decide);replace bQ:=oR ag bQ bu (by decide);replace bC:=oR ag bC bu (by decide);replace aT:=oX ag aT bu (by decide);replace bI:=oN ag bI (bD cg);replace dS:=oR ag dS bu (by decide);replace bR:=oX ag bR bu (by decide);replace HB:=oB ag HB mT;clear ag;replace bu:=aa.mk hs_;clear hs_))
   (try simp only [Exit.inBlock,Exit.then])
   refine bodyPost_ret (iz rfl _ _ _ _ _ _ _ _ (0,0) (0,0) _ _ rfl bg.out jb rfl eI.out rfl bu.out nS rfl iT.out) rfl ?_;exact ⟨_,_,_,rfl,Kd.cl _ _ _ _ _,Kd.cl _ _ _ _ _,Kd.cl _ _ _ _ _,HB.out⟩
  |true=>
   rw [au rfl] at H
   obtain rfl:=cS H
   (try dsimp only)
   go_upto_region 32 with (fail)
   refine dg (n:=5) (S:=fun w'=>w'.heap[gp]?=some (.cells #[.int .u8 a,.int .u8 t,.int .u8 17,.int .u16 i,.int .u8 fl,.int .u16 dM,.int .u32 s,.int .u32 d,.slice Ao o.length co,.slice Ab b.length cb] 73 (0,0)) /\ w'.heap[gf]?=some (.cells #[.int .u8 17,.int .u32 s,.int .u16 us,.int .u32 d,.int .u16 ud,.int .u8 0,.slice none 0 0] 124 (0,0))) (ds:=[]) #[false,false,false,false,false] (by kernel_rfl) rfl rfl ⟨aT.out,bI.out⟩ (fun hHeld=> ?_);refine bH rlk.Pg.tab rlk.Pg.bits (fun az dW=> ?_);have ah:=bf (Below.refl qf.heap.size qf);replace HB:=mB HB ah;replace bg:=mX bg ah;replace bu:=mX bu ah;replace bQ:=mR bQ ah;replace bC:=mR bC ah;replace aT:=mX aT ah;replace bI:=mX bI ah;replace dS:=mR dS ah;replace bR:=mX bR ah;clear ah
   generalize qf.drew=l5 at HB bg bu bQ bC aT bI dS bR hHeld|-
   refine tv 0 154 (.agg #[.int .u8 a,.int .u8 t,.int .u8 17,.int .u16 i,.int .u8 fl,.int .u16 dM,.int .u32 s,.int .u32 d,.slice Ao o.length co,.slice Ab b.length cb]) az dW hHeld ?_ ?_
   ·intro w' s0
    obtain ⟨s0,s1⟩:=s0;exact br (p:= .tmp 5) (ty:=73) (by rfl) (by rfl) s0 jb (by rfl) eI.out
   refine nz 154 ?_;refine tv 1 155 (.agg #[.int .u8 17,.int .u32 s,.int .u16 us,.int .u32 d,.int .u16 ud,.int .u8 0,.slice none 0 0]) az dW hHeld ?_ ?_
   ·intro w' s0
    obtain ⟨s0,s1⟩:=s0;exact br (p:= .tmp 7) (ty:=124) (by rfl) (by rfl) s1 nS (by rfl) iT.out
   refine nz 155 ?_;refine oz 2 (none) az (fun K hK=> ?_);refine cC (by rfl) (by rfl) rfl rfl rfl bg.out eI.out rfl (by simp [Value.oneCell']) ?_;intro sR hs_ ag;replace bu:=oX ag bu bg (by decide);replace bQ:=oR ag bQ bg (by decide);replace bC:=oR ag bC bg (by decide);replace aT:=oN ag aT (bD cD);replace bI:=oX ag bI bg (by decide);replace dS:=oR ag dS bg (by decide);replace bR:=oX ag bR bg (by decide);replace HB:=oB ag HB ld;clear ag;replace bg:=aa.mk hs_;clear hs_;refine hK.out _ _ ⟨aT.out,bI.out⟩ (fun hHeld=> ?_);clear hK K;refine oz 3 (none) az (fun K hK=> ?_);refine cC (by rfl) (by rfl) rfl rfl rfl bu.out iT.out rfl (by simp [Value.oneCell']) ?_;intro qN hs_ ag;replace bg:=oX ag bg bu (by decide);replace bQ:=oR ag bQ bu (by decide)
   replace bC:=oR ag bC bu (by decide);replace aT:=oX ag aT bu (by decide);replace bI:=oN ag bI (bD cg);replace dS:=oR ag dS bu (by decide);replace bR:=oX ag bR bu (by decide);replace HB:=oB ag HB mT;clear ag;replace bu:=aa.mk hs_;clear hs_;refine hK.out _ _ ⟨aT.out,bI.out⟩ (fun hHeld=> ?_);clear hK K;refine pz 4 4 az ?_;refine dz az ?_;clear az dW hHeld
   (try dsimp only)
   go_wp2
   (try simp only [Exit.inBlock,Exit.then])
   refine bodyPost_ret (iz rfl _ _ _ _ _ _ _ _ (0,0) (0,0) _ _ rfl bg.out jb rfl eI.out rfl bu.out nS rfl iT.out) rfl ?_;exact ⟨_,_,_,rfl,bQ.out,bC.out,Kd.cl _ _ _ _ _,HB.out⟩
 ·have Bl:(e2==0)=false:=fc ce
  have Je:(e2 !=0)=true:=bne_iff_ne.2 ce;rw [ax ce] at H
  clear ce;obtain rfl:=cS H
  (try dsimp only)
  go_wp2_with (first|((refine dO rfl rfl rfl rfl rfl bg.out eI.out rfl (by simp [Value.oneCell']) ?_);intro l5 hs_ ag;replace bu:=oX ag bu bg (by decide);replace bQ:=oR ag bQ bg (by decide);replace bC:=oR ag bC bg (by decide);replace aT:=oN ag aT (bD cD);replace bI:=oX ag bI bg (by decide);replace dS:=oR ag dS bg (by decide);replace bR:=oX ag bR bg (by decide);replace HB:=oB ag HB ld;clear ag;replace bg:=aa.mk hs_;clear hs_)|((refine dO rfl rfl rfl rfl rfl bu.out iT.out rfl (by simp [Value.oneCell']) ?_);intro sR hs_ ag;replace bg:=oX ag bg bu (by decide);replace bQ:=oR ag bQ bu (by decide);replace bC:=oR ag bC bu (by decide);replace aT:=oX ag aT bu (by decide);replace bI:=oN ag bI (bD cg);replace dS:=oR ag dS bu (by decide);replace bR:=oX ag bR bu (by decide);replace HB:=oB ag HB mT;clear ag;replace bu:=aa.mk hs_;clear hs_))
  (try simp only [Exit.inBlock,Exit.then])
  refine bodyPost_ret (iz rfl _ _ _ _ _ _ _ _ (0,0) (0,0) _ _ rfl bg.out jb rfl eI.out rfl bu.out nS rfl iT.out) rfl ?_;exact ⟨_,_,_,rfl,Kd.cl _ _ _ _ _,Kd.cl _ _ _ _ _,Kd.cl _ _ _ _ _,HB.out⟩
theorem rlk.tcp (k:Nat) (A:Option Addr) (c:Nat) (l:List Int) (a t i fl dM s d:Int) (o b:List Int) (r:LK) (w:World) (hC:Kd.C (Kd.int .u8) w A l.length l) (hL:l.length<=c) (hP:bB.f k l=some (a,t,6,i,fl,dM,s,d,o,b,0)) (h:Ec k a t i fl dM s d o b=some r):
  Calls Try.prog 66 #[.slice A l.length c] w fun e w'=>r.Told w.heap.size w e w':=by
 have iQ:=Try.underlying65;have jb:=Try.underlying73;have nS:=Try.underlying124;have qU:=Try.underlying137;have HB:=gj w;have HC:=aa.mk hC;have HL:=aa.mk hL;have HP:=aa.mk hP;have HF:=aa.mk h;have fL:aa ((Try.prog.info? 65).map (·.size)=some 2):=⟨by kernel_rfl⟩
 have eI:aa ((Try.prog.info? 73).map (·.size)=some 10):=⟨by kernel_rfl⟩
 have iT:aa ((Try.prog.info? 124).map (·.size)=some 7):=⟨by kernel_rfl⟩
 have jT:aa ((Try.prog.info? 137).map (·.size)=some 10):=⟨by kernel_rfl⟩
 clear hC hL hP h
 go_enter Try.func66,Try.ntmps66
 go_upto_region 1 with (first|((with_reducible refine aA (N:=2) rfl ?_);refine aC ?gJ (N:=2) ?iS (cs:= #[.int .u8 0,.int .u8 0,.int .u8 0,.int .u16 0,.int .u8 0,.int .u16 0,.int .u32 0,.int .u32 0,.slice none 0 0,.slice none 0 0]) (t:=73) ?fq ?_;(case iS=>rfl);(case gJ=>rfl);(case fq=>first|(go_simp;done)|(go_simp;rfl));intro gi cv w1 bJ cP;have ld:=aa.mk (show w.heap.size<=gi by rw [cv];exact af HB.out);have bg:=aa.mk bJ;have ah:=cP;replace HB:=mB HB ah;clear ah;clear cv bJ cP)|((with_reducible refine aA (N:=3) rfl ?_);refine aC ?gJ (N:=3) ?iS (cs:= #[.int .u8 0,.int .u32 0,.int .u16 0,.int .u32 0,.int .u16 0,.int .u8 0,.slice none 0 0]) (t:=124) ?fq ?_;(case iS=>rfl);(case gJ=>rfl);(case fq=>first|(go_simp;done)|(go_simp;rfl));intro gq cv w2 bJ cP;have mT:=aa.mk (show w.heap.size<=gq by rw [cv];exact af HB.out);have bu:=aa.mk bJ;have ah:=cP;replace HB:=mB HB ah;replace bg:=mX bg ah;clear ah;clear cv bJ cP))
 go_wp2_with fail
 refine (bB.calls k A c l a t 6 i fl dM s d o b 0 _ (Kd.aU HC.out HB.out) HL.out HP.out).mono ?_;rintro ev w3 ⟨vo,vb,rfl,ho,qn,hb⟩;have bQ:=lD ho HB;obtain ⟨Ao,co,rfl,_,_⟩:=Kd.bW ho;clear ho;have bC:=lD qn HB;obtain ⟨Ab,cb,rfl,_,_⟩:=Kd.bW qn;clear qn;have ah:=hb;replace HB:=mB HB ah;replace bg:=mX bg ah;replace bu:=mX bu ah;clear ah;clear hb HP HC HL
 (try dsimp only)
 go_upto_region 2 with (((refine eu rfl rfl rfl rfl rfl eI.out rfl (by simp [Value.oneCell']) ?_);intro fB gH cO))
 revert fB gH cO;intro w4 gH cO;have aT:aa (w4.heap[w3.heap.size]?=some (.cells #[.int .u8 a,.int .u8 t,.int .u8 6,.int .u16 i,.int .u8 fl,.int .u16 dM,.int .u32 s,.int .u32 d,.slice Ao o.length co,.slice Ab b.length cb] 73 (0,0))):=⟨gH⟩
 have lE:=wN HB;have cD:=dJ bg;have ah:=cO;replace HB:=mB HB ah;replace bg:=mX bg ah;replace bu:=mX bu ah;replace bQ:=mR bQ ah;replace bC:=mR bC ah;clear ah;clear gH cO;generalize w3.heap.size=gp at aT lE cD|-
 have nl:=cz aT.out 2 rfl;have su:=cz aT.out 6 rfl;have sM:=cz aT.out 7 rfl
 go_upto_region 5 with (((refine eu rfl rfl rfl rfl rfl iT.out rfl (by simp [Value.oneCell']) ?_);intro fB gH cO))
 clear nl su sM;revert fB gH cO;intro w5 gH cO;have bI:aa (w5.heap[w4.heap.size]?=some (.cells #[.int .u8 6,.int .u32 s,.int .u16 0,.int .u32 d,.int .u16 0,.int .u8 0,.slice none 0 0] 124 (0,0))):=⟨gH⟩
 have nJ:=wN HB;have cg:=dJ bu;have ah:=cO;replace HB:=mB HB ah;replace bg:=mX bg ah;replace bu:=mX bu ah;replace bQ:=mR bQ ah;replace bC:=mR bC ah;replace aT:=mX aT ah;clear ah;clear gH cO;generalize w4.heap.size=gf at bI nJ cg|-
 have H:=HF.out;clear HF;unfold Ec at H
 obtain ⟨⟨ts,td,tq,ta,tf,tw,tc,tu,nf,tb,e2⟩,hp,H⟩:=bV H;dsimp only at H
 obtain ⟨rt,hr,H⟩:=bV H;have HG:=aa.mk H;clear H;have HQ:=aa.mk hp;have HW:=aa.mk hr;clear hp hr;have nl:=cz aT.out 2 rfl;have ux:=cz aT.out 9 rfl
 go_wp2_with fail
 clear nl ux;refine (fZ.calls Ab cb b ts td tq ta tf tw tc tu nf tb e2 _ (Kd.av bC.out).2.2 (Kd.av bC.out).2.1 HQ.out).mono ?_;rintro ev w6 ⟨Uz,vtb,rfl,Dg,htb,hb⟩;have cF:=lD Dg HB;obtain ⟨uj,uk,rfl,_,_⟩:=Kd.bW Dg;clear Dg;have ep:=lD htb HB;obtain ⟨Er,Es,rfl,_,_⟩:=Kd.bW htb;clear htb;have ah:=hb;replace HB:=mB HB ah;replace bg:=mX bg ah;replace bu:=mX bu ah;replace bQ:=mR bQ ah;replace bC:=mR bC ah;replace aT:=mX aT ah;replace bI:=mX bI ah;clear ah;clear hb
 (try dsimp only)
 go_upto_region 14 with (((refine eu rfl rfl rfl rfl rfl jT.out rfl (by simp [Value.oneCell']) ?_);intro fB gH cO))
 revert fB gH cO;intro w7 gH cO;have bR:aa (w7.heap[w6.heap.size]?=some (.cells #[.int .u16 ts,.int .u16 td,.int .u32 tq,.int .u32 ta,.int .u8 tf,.int .u16 tw,.int .u16 tc,.int .u16 tu,.slice uj nf.length uk,.slice Er tb.length Es] 137 (0,0))):=⟨gH⟩
 have lR:=wN HB;have ah:=cO;replace HB:=mB HB ah;replace bg:=mX bg ah;replace bu:=mX bu ah;replace bQ:=mR bQ ah;replace bC:=mR bC ah;replace aT:=mX aT ah;replace bI:=mX bI ah;replace cF:=mR cF ah;replace ep:=mR ep ah;clear ah;clear gH cO;generalize w6.heap.size=gu at bR lR|-
 have su:=cz aT.out 6 rfl;have sM:=cz aT.out 7 rfl
 go_wp2_with (refine Kd.bL rfl (br rfl rfl bR.out Try.underlying137 rfl jT.out) ?_)
 clear su sM;refine (j9.calls k s d ts td tq ta tf tw tc tu uj uk nf Er Es tb rt _ (Kd.av cF.out).2.2 (Kd.av cF.out).2.1 (Kd.av ep.out).2.2 (Kd.av ep.out).2.1 HW.out).mono ?_;rintro ev w8 ⟨rfl,hb⟩;have ah:=hb;replace HB:=mB HB ah;replace bg:=mX bg ah;replace bu:=mX bu ah;replace bQ:=mR bQ ah;replace bC:=mR bC ah;replace aT:=mX aT ah;replace bI:=mX bI ah;replace cF:=mR cF ah;replace ep:=mR ep ah;replace bR:=mX bR ah;clear ah;clear hb HQ HW
 (try dsimp only)
 go_upto_region 15 with (fail)
 refine dg (n:=14) (S:=fun w'=>w'.cell? ⟨gu,0,none⟩=some (.int .u16 ts) /\ w'.cell? ⟨gu,1,none⟩=some (.int .u16 td) /\ w'.cell? ⟨gu,4,none⟩=some (.int .u8 tf)) (ds:=[]) #[false,false,false,false,false,false,false,false,false,false,false,false,false,false] (by kernel_rfl) rfl rfl ⟨((aE bR.out 0).trans rfl),((aE bR.out 1).trans rfl),((aE bR.out 4).trans rfl)⟩ (fun hHeld=> ?_);refine bH rlk.R15.tab rlk.R15.bits (fun az dW=> ?_);have ah:=bf (Below.refl w8.heap.size w8);replace HB:=mB HB ah;replace bg:=mX bg ah;replace bu:=mX bu ah;replace bQ:=mR bQ ah;replace bC:=mR bC ah;replace aT:=mX aT ah;replace bI:=mX bI ah;replace cF:=mR cF ah;replace ep:=mR ep ah;replace bR:=mX bR ah;clear ah
 generalize w8.drew=w9 at HB bg bu bQ bC aT bI cF ep bR hHeld|-
 refine pz 0 81 az ?_;refine pz 2 83 az ?_;refine pz 4 85 az ?_;refine tz 1 82 az dW hHeld ?_;refine pz 6 87 az ?_;refine pz 7 88 az ?_;refine tz 3 84 az dW hHeld ?_;refine tz 5 86 az dW hHeld ?_;refine oz 8 (none) az (fun K hK=> ?_);refine fK (i:=2) (v:= .int .u16 ts) (cs':= #[.int .u8 6,.int .u32 s,.int .u16 ts,.int .u32 d,.int .u16 0,.int .u8 0,.slice none 0 0]) (by rfl) (by rfl) bI.out rfl (by (have m_:=(aE bI.out 2).trans (rfl:_=some (.int .u16 0:Value)));(have nY:=ae bI.out 2);first|(go_simp;done)|(go_simp;rfl)) ?_;intro j4 hs_ ag;replace bg:=oX ag bg bI (by decide);replace bu:=oN ag bu cg;replace bQ:=oR ag bQ bI (by decide);replace bC:=oR ag bC bI (by decide);replace aT:=oX ag aT bI (by decide);replace cF:=oR ag cF bI (by decide)
 replace ep:=oR ag ep bI (by decide);replace bR:=oX ag bR bI (by decide);replace HB:=oB ag HB nJ;clear ag;replace bI:=aa.mk hs_;clear hs_;refine hK.out _ _ ⟨((aE bR.out 0).trans rfl),((aE bR.out 1).trans rfl),((aE bR.out 4).trans rfl)⟩ (fun hHeld=> ?_);clear hK K;refine pz 9 89 az ?_;refine pz 10 90 az ?_;refine oz 11 (none) az (fun K hK=> ?_);refine fK (i:=4) (v:= .int .u16 td) (cs':= #[.int .u8 6,.int .u32 s,.int .u16 ts,.int .u32 d,.int .u16 td,.int .u8 0,.slice none 0 0]) (by rfl) (by rfl) bI.out rfl (by (have m_:=(aE bI.out 4).trans (rfl:_=some (.int .u16 0:Value)));(have nY:=ae bI.out 4);first|(go_simp;done)|(go_simp;rfl)) ?_;intro qf hs_ ag;replace bg:=oX ag bg bI (by decide);replace bu:=oN ag bu cg
 replace bQ:=oR ag bQ bI (by decide);replace bC:=oR ag bC bI (by decide);replace aT:=oX ag aT bI (by decide);replace cF:=oR ag cF bI (by decide);replace ep:=oR ag ep bI (by decide);replace bR:=oX ag bR bI (by decide);replace HB:=oB ag HB nJ;clear ag;replace bI:=aa.mk hs_;clear hs_;refine hK.out _ _ ⟨((aE bR.out 0).trans rfl),((aE bR.out 1).trans rfl),((aE bR.out 4).trans rfl)⟩ (fun hHeld=> ?_);clear hK K;refine pz 12 91 az ?_;refine oz 13 (none) az (fun K hK=> ?_)
 refine fK (i:=5) (v:= .int .u8 tf) (cs':= #[.int .u8 6,.int .u32 s,.int .u16 ts,.int .u32 d,.int .u16 td,.int .u8 tf,.slice none 0 0]) (by rfl) (by rfl) bI.out rfl (by (have m_:=(aE bI.out 5).trans (rfl:_=some (.int .u8 0:Value)));(have nY:=ae bI.out 5);first|(go_simp;done)|(go_simp;rfl)) ?_;intro l5 hs_ ag;replace bg:=oX ag bg bI (by decide);replace bu:=oN ag bu cg;replace bQ:=oR ag bQ bI (by decide);replace bC:=oR ag bC bI (by decide);replace aT:=oX ag aT bI (by decide);replace cF:=oR ag cF bI (by decide);replace ep:=oR ag ep bI (by decide);replace bR:=oX ag bR bI (by decide);replace HB:=oB ag HB nJ;clear ag;replace bI:=aa.mk hs_;clear hs_
 refine hK.out _ _ ⟨((aE bR.out 0).trans rfl),((aE bR.out 1).trans rfl),((aE bR.out 4).trans rfl)⟩ (fun hHeld=> ?_);clear hK K;refine dz az ?_;clear az dW hHeld;have H:=HG.out;clear HG
 by_cases ce:e2=0
 ·have Bl:(e2==0)=true:=fH ce
  have Je:(e2 !=0)=false:=by rw [bne,Bl];rfl
  rw [au ce] at H
  clear ce
  cases rt with
  |false=>
   rw [ax (by decide)] at H
   obtain rfl:=cS H
   (try dsimp only)
   go_wp2_with (first|((refine dO rfl rfl rfl rfl rfl bg.out eI.out rfl (by simp [Value.oneCell']) ?_);intro sR hs_ ag;replace bu:=oX ag bu bg (by decide);replace bQ:=oR ag bQ bg (by decide);replace bC:=oR ag bC bg (by decide);replace aT:=oN ag aT (bD cD);replace bI:=oX ag bI bg (by decide);replace cF:=oR ag cF bg (by decide);replace ep:=oR ag ep bg (by decide);replace bR:=oX ag bR bg (by decide);replace HB:=oB ag HB ld;clear ag;replace bg:=aa.mk hs_;clear hs_)|((refine dO rfl rfl rfl rfl rfl bu.out iT.out rfl (by simp [Value.oneCell']) ?_);intro qN hs_ ag;replace bg:=oX ag bg bu (by decide);replace bQ:=oR ag bQ bu (by decide);replace bC:=oR ag bC bu (by decide);replace aT:=oX ag aT bu (by decide);replace bI:=oN ag bI (bD cg);replace cF:=oR ag cF bu (by decide);replace ep:=oR ag ep bu (by decide);replace bR:=oX ag bR bu (by decide);replace HB:=oB ag HB mT;clear ag;replace bu:=aa.mk hs_;clear hs_))
   (try simp only [Exit.inBlock,Exit.then])
   refine bodyPost_ret (iz rfl _ _ _ _ _ _ _ _ (0,0) (0,0) _ _ rfl bg.out jb rfl eI.out rfl bu.out nS rfl iT.out) rfl ?_;exact ⟨_,_,_,rfl,Kd.cl _ _ _ _ _,Kd.cl _ _ _ _ _,Kd.cl _ _ _ _ _,HB.out⟩
  |true=>
   rw [au rfl] at H
   obtain rfl:=cS H
   (try dsimp only)
   go_upto_region 32 with (fail)
   refine dg (n:=5) (S:=fun w'=>w'.heap[gp]?=some (.cells #[.int .u8 a,.int .u8 t,.int .u8 6,.int .u16 i,.int .u8 fl,.int .u16 dM,.int .u32 s,.int .u32 d,.slice Ao o.length co,.slice Ab b.length cb] 73 (0,0)) /\ w'.heap[gf]?=some (.cells #[.int .u8 6,.int .u32 s,.int .u16 ts,.int .u32 d,.int .u16 td,.int .u8 tf,.slice none 0 0] 124 (0,0))) (ds:=[]) #[false,false,false,false,false] (by kernel_rfl) rfl rfl ⟨aT.out,bI.out⟩ (fun hHeld=> ?_);refine bH rlk.Pg.tab rlk.Pg.bits (fun az dW=> ?_);have ah:=bf (Below.refl l5.heap.size l5);replace HB:=mB HB ah;replace bg:=mX bg ah;replace bu:=mX bu ah;replace bQ:=mR bQ ah;replace bC:=mR bC ah;replace aT:=mX aT ah;replace bI:=mX bI ah;replace cF:=mR cF ah;replace ep:=mR ep ah;replace bR:=mX bR ah;clear ah
   generalize l5.drew=sR at HB bg bu bQ bC aT bI cF ep bR hHeld|-
   refine tv 0 154 (.agg #[.int .u8 a,.int .u8 t,.int .u8 6,.int .u16 i,.int .u8 fl,.int .u16 dM,.int .u32 s,.int .u32 d,.slice Ao o.length co,.slice Ab b.length cb]) az dW hHeld ?_ ?_
   ·intro w' s0
    obtain ⟨s0,s1⟩:=s0;exact br (p:= .tmp 5) (ty:=73) (by rfl) (by rfl) s0 jb (by rfl) eI.out
   refine nz 154 ?_;refine tv 1 155 (.agg #[.int .u8 6,.int .u32 s,.int .u16 ts,.int .u32 d,.int .u16 td,.int .u8 tf,.slice none 0 0]) az dW hHeld ?_ ?_
   ·intro w' s0
    obtain ⟨s0,s1⟩:=s0;exact br (p:= .tmp 7) (ty:=124) (by rfl) (by rfl) s1 nS (by rfl) iT.out
   refine nz 155 ?_;refine oz 2 (none) az (fun K hK=> ?_);refine cC (by rfl) (by rfl) rfl rfl rfl bg.out eI.out rfl (by simp [Value.oneCell']) ?_;intro qN hs_ ag;replace bu:=oX ag bu bg (by decide);replace bQ:=oR ag bQ bg (by decide);replace bC:=oR ag bC bg (by decide);replace aT:=oN ag aT (bD cD);replace bI:=oX ag bI bg (by decide);replace cF:=oR ag cF bg (by decide);replace ep:=oR ag ep bg (by decide);replace bR:=oX ag bR bg (by decide);replace HB:=oB ag HB ld;clear ag;replace bg:=aa.mk hs_;clear hs_;refine hK.out _ _ ⟨aT.out,bI.out⟩ (fun hHeld=> ?_);clear hK K;refine oz 3 (none) az (fun K hK=> ?_);refine cC (by rfl) (by rfl) rfl rfl rfl bu.out iT.out rfl (by simp [Value.oneCell']) ?_;intro yE hs_ ag;replace bg:=oX ag bg bu (by decide)
   replace bQ:=oR ag bQ bu (by decide);replace bC:=oR ag bC bu (by decide);replace aT:=oX ag aT bu (by decide);replace bI:=oN ag bI (bD cg);replace cF:=oR ag cF bu (by decide);replace ep:=oR ag ep bu (by decide);replace bR:=oX ag bR bu (by decide);replace HB:=oB ag HB mT;clear ag;replace bu:=aa.mk hs_;clear hs_;refine hK.out _ _ ⟨aT.out,bI.out⟩ (fun hHeld=> ?_);clear hK K;refine pz 4 4 az ?_;refine dz az ?_;clear az dW hHeld
   (try dsimp only)
   go_wp2
   (try simp only [Exit.inBlock,Exit.then])
   refine bodyPost_ret (iz rfl _ _ _ _ _ _ _ _ (0,0) (0,0) _ _ rfl bg.out jb rfl eI.out rfl bu.out nS rfl iT.out) rfl ?_;exact ⟨_,_,_,rfl,bQ.out,bC.out,Kd.cl _ _ _ _ _,HB.out⟩
 ·have Bl:(e2==0)=false:=fc ce
  have Je:(e2 !=0)=true:=bne_iff_ne.2 ce;rw [ax ce] at H
  clear ce;obtain rfl:=cS H
  (try dsimp only)
  go_wp2_with (first|((refine dO rfl rfl rfl rfl rfl bg.out eI.out rfl (by simp [Value.oneCell']) ?_);intro sR hs_ ag;replace bu:=oX ag bu bg (by decide);replace bQ:=oR ag bQ bg (by decide);replace bC:=oR ag bC bg (by decide);replace aT:=oN ag aT (bD cD);replace bI:=oX ag bI bg (by decide);replace cF:=oR ag cF bg (by decide);replace ep:=oR ag ep bg (by decide);replace bR:=oX ag bR bg (by decide);replace HB:=oB ag HB ld;clear ag;replace bg:=aa.mk hs_;clear hs_)|((refine dO rfl rfl rfl rfl rfl bu.out iT.out rfl (by simp [Value.oneCell']) ?_);intro qN hs_ ag;replace bg:=oX ag bg bu (by decide);replace bQ:=oR ag bQ bu (by decide);replace bC:=oR ag bC bu (by decide);replace aT:=oX ag aT bu (by decide);replace bI:=oN ag bI (bD cg);replace cF:=oR ag cF bu (by decide);replace ep:=oR ag ep bu (by decide);replace bR:=oX ag bR bu (by decide);replace HB:=oB ag HB mT;clear ag;replace bu:=aa.mk hs_;clear hs_))
  (try simp only [Exit.inBlock,Exit.then])
  refine bodyPost_ret (iz rfl _ _ _ _ _ _ _ _ (0,0) (0,0) _ _ rfl bg.out jb rfl eI.out rfl bu.out nS rfl iT.out) rfl ?_;exact ⟨_,_,_,rfl,Kd.cl _ _ _ _ _,Kd.cl _ _ _ _ _,Kd.cl _ _ _ _ _,HB.out⟩
theorem rlk.wC (k:Nat) (A:Option Addr) (c:Nat) (l:List Int) (a t i fl dM s d:Int) (o b:List Int) (r:LK) (w:World) (hC:Kd.C (Kd.int .u8) w A l.length l) (hL:l.length<=c) (hP:bB.f k l=some (a,t,1,i,fl,dM,s,d,o,b,0)) (h:zZ k a t i fl dM s d o b=some r) (hm:∀ mt mc ms mr mb e,eS.f b=some (mt,mc,ms,mr,mb,e) ->gU mb /\ mb.length<=100000):
  Calls Try.prog 66 #[.slice A l.length c] w fun e w'=>r.Told w.heap.size w e w':=by
 have iQ:=Try.underlying65;have jb:=Try.underlying73;have nS:=Try.underlying124;have ny:=Try.underlying101;have HB:=gj w;have HC:=aa.mk hC;have HL:=aa.mk hL;have HP:=aa.mk hP;have HF:=aa.mk h;have HM:=aa.mk hm;have fL:aa ((Try.prog.info? 65).map (·.size)=some 2):=⟨by kernel_rfl⟩
 have eI:aa ((Try.prog.info? 73).map (·.size)=some 10):=⟨by kernel_rfl⟩
 have iT:aa ((Try.prog.info? 124).map (·.size)=some 7):=⟨by kernel_rfl⟩
 have ja:aa ((Try.prog.info? 101).map (·.size)=some 5):=⟨by kernel_rfl⟩
 clear hC hL hP h hm
 go_enter Try.func66,Try.ntmps66
 go_upto_region 1 with (first|((with_reducible refine aA (N:=2) rfl ?_);refine aC ?gJ (N:=2) ?iS (cs:= #[.int .u8 0,.int .u8 0,.int .u8 0,.int .u16 0,.int .u8 0,.int .u16 0,.int .u32 0,.int .u32 0,.slice none 0 0,.slice none 0 0]) (t:=73) ?fq ?_;(case iS=>rfl);(case gJ=>rfl);(case fq=>first|(go_simp;done)|(go_simp;rfl));intro gi cv w1 bJ cP;have ld:=aa.mk (show w.heap.size<=gi by rw [cv];exact af HB.out);have bg:=aa.mk bJ;have ah:=cP;replace HB:=mB HB ah;clear ah;clear cv bJ cP)|((with_reducible refine aA (N:=3) rfl ?_);refine aC ?gJ (N:=3) ?iS (cs:= #[.int .u8 0,.int .u32 0,.int .u16 0,.int .u32 0,.int .u16 0,.int .u8 0,.slice none 0 0]) (t:=124) ?fq ?_;(case iS=>rfl);(case gJ=>rfl);(case fq=>first|(go_simp;done)|(go_simp;rfl));intro gq cv w2 bJ cP;have mT:=aa.mk (show w.heap.size<=gq by rw [cv];exact af HB.out);have bu:=aa.mk bJ;have ah:=cP;replace HB:=mB HB ah;replace bg:=mX bg ah;clear ah;clear cv bJ cP))
 go_wp2_with fail
 refine (bB.calls k A c l a t 1 i fl dM s d o b 0 _ (Kd.aU HC.out HB.out) HL.out HP.out).mono ?_;rintro ev w3 ⟨vo,vb,rfl,ho,qn,hb⟩;have bQ:=lD ho HB;obtain ⟨Ao,co,rfl,_,_⟩:=Kd.bW ho;clear ho;have bC:=lD qn HB;obtain ⟨Ab,cb,rfl,_,_⟩:=Kd.bW qn;clear qn;have ah:=hb;replace HB:=mB HB ah;replace bg:=mX bg ah;replace bu:=mX bu ah;clear ah;clear hb HP HC HL
 (try dsimp only)
 go_upto_region 2 with (((refine eu rfl rfl rfl rfl rfl eI.out rfl (by simp [Value.oneCell']) ?_);intro fB gH cO))
 revert fB gH cO;intro w4 gH cO;have aT:aa (w4.heap[w3.heap.size]?=some (.cells #[.int .u8 a,.int .u8 t,.int .u8 1,.int .u16 i,.int .u8 fl,.int .u16 dM,.int .u32 s,.int .u32 d,.slice Ao o.length co,.slice Ab b.length cb] 73 (0,0))):=⟨gH⟩
 have lE:=wN HB;have cD:=dJ bg;have ah:=cO;replace HB:=mB HB ah;replace bg:=mX bg ah;replace bu:=mX bu ah;replace bQ:=mR bQ ah;replace bC:=mR bC ah;clear ah;clear gH cO;generalize w3.heap.size=gp at aT lE cD|-
 have nl:=cz aT.out 2 rfl;have su:=cz aT.out 6 rfl;have sM:=cz aT.out 7 rfl
 go_upto_region 5 with (((refine eu rfl rfl rfl rfl rfl iT.out rfl (by simp [Value.oneCell']) ?_);intro fB gH cO))
 clear nl su sM;revert fB gH cO;intro w5 gH cO;have bI:aa (w5.heap[w4.heap.size]?=some (.cells #[.int .u8 1,.int .u32 s,.int .u16 0,.int .u32 d,.int .u16 0,.int .u8 0,.slice none 0 0] 124 (0,0))):=⟨gH⟩
 have nJ:=wN HB;have cg:=dJ bu;have ah:=cO;replace HB:=mB HB ah;replace bg:=mX bg ah;replace bu:=mX bu ah;replace bQ:=mR bQ ah;replace bC:=mR bC ah;replace aT:=mX aT ah;clear ah;clear gH cO;generalize w4.heap.size=gf at bI nJ cg|-
 have H:=HF.out;clear HF;unfold zZ at H
 obtain ⟨⟨mt,mc,ms,mr,mb,e2⟩,hp,H⟩:=bV H;dsimp only at H
 obtain ⟨rt,hr,H⟩:=bV H;have HG:=aa.mk H;clear H;have HQ:=aa.mk hp;have HW:=aa.mk hr;clear hp hr;have nl:=cz aT.out 2 rfl;have ux:=cz aT.out 9 rfl
 go_wp2_with fail
 clear nl ux;refine (eS.calls Ab cb b mt mc ms mr mb e2 _ (Kd.av bC.out).2.2 (Kd.av bC.out).2.1 HQ.out).mono ?_;rintro ev w6 ⟨vmb,rfl,hmb,hb⟩;have bY:=lD hmb HB;obtain ⟨yx,yy,rfl,_,_⟩:=Kd.bW hmb;clear hmb;have ah:=hb;replace HB:=mB HB ah;replace bg:=mX bg ah;replace bu:=mX bu ah;replace bQ:=mR bQ ah;replace bC:=mR bC ah;replace aT:=mX aT ah;replace bI:=mX bI ah;clear ah;clear hb
 (try dsimp only)
 go_upto_region 18 with (((refine eu rfl rfl rfl rfl rfl ja.out rfl (by simp [Value.oneCell']) ?_);intro fB gH cO))
 revert fB gH cO;intro w7 gH cO;have bR:aa (w7.heap[w6.heap.size]?=some (.cells #[.int .u8 mt,.int .u8 mc,.int .u16 ms,.int .u32 mr,.slice yx mb.length yy] 101 (0,0))):=⟨gH⟩
 have lR:=wN HB;have ah:=cO;replace HB:=mB HB ah;replace bg:=mX bg ah;replace bu:=mX bu ah;replace bQ:=mR bQ ah;replace bC:=mR bC ah;replace aT:=mX aT ah;replace bI:=mX bI ah;replace bY:=mR bY ah;clear ah;clear gH cO;generalize w6.heap.size=gu at bR lR|-
 go_wp2_with (refine Kd.bL rfl (br rfl rfl bR.out Try.underlying101 rfl ja.out) ?_)
 refine (jF.calls k mt mc ms mr yx yy mb rt _ (Kd.av bY.out).2.2 (Kd.av bY.out).2.1 HW.out).mono ?_;rintro ev w8 ⟨rfl,hb⟩;have ah:=hb;replace HB:=mB HB ah;replace bg:=mX bg ah;replace bu:=mX bu ah;replace bQ:=mR bQ ah;replace bC:=mR bC ah;replace aT:=mX aT ah;replace bI:=mX bI ah;replace bY:=mR bY ah;replace bR:=mX bR ah;clear ah;clear hb HW;have H:=HG.out;clear HG
 by_cases ce:e2=0
 ·have Bl:(e2==0)=true:=fH ce
  have Je:(e2 !=0)=false:=by rw [bne,Bl];rfl
  rw [au ce] at H
  clear ce
  cases rt with
  |false=>
   rw [ax (by decide)] at H
   obtain rfl:=cS H
   (try dsimp only)
   go_wp2_with (first|((refine dO rfl rfl rfl rfl rfl bg.out eI.out rfl (by simp [Value.oneCell']) ?_);intro w9 hs_ ag;replace bu:=oX ag bu bg (by decide);replace bQ:=oR ag bQ bg (by decide);replace bC:=oR ag bC bg (by decide);replace aT:=oN ag aT (bD cD);replace bI:=oX ag bI bg (by decide);replace bY:=oR ag bY bg (by decide);replace bR:=oX ag bR bg (by decide);replace HB:=oB ag HB ld;clear ag;replace bg:=aa.mk hs_;clear hs_)|((refine dO rfl rfl rfl rfl rfl bu.out iT.out rfl (by simp [Value.oneCell']) ?_);intro j4 hs_ ag;replace bg:=oX ag bg bu (by decide);replace bQ:=oR ag bQ bu (by decide);replace bC:=oR ag bC bu (by decide);replace aT:=oX ag aT bu (by decide);replace bI:=oN ag bI (bD cg);replace bY:=oR ag bY bu (by decide);replace bR:=oX ag bR bu (by decide);replace HB:=oB ag HB mT;clear ag;replace bu:=aa.mk hs_;clear hs_))
   (try simp only [Exit.inBlock,Exit.then])
   refine bodyPost_ret (iz rfl _ _ _ _ _ _ _ _ (0,0) (0,0) _ _ rfl bg.out jb rfl eI.out rfl bu.out nS rfl iT.out) rfl ?_;exact ⟨_,_,_,rfl,Kd.cl _ _ _ _ _,Kd.cl _ _ _ _ _,Kd.cl _ _ _ _ _,HB.out⟩
  |true=>
   rw [au rfl] at H
   obtain ⟨ec,Xt,H⟩:=bV H;have HG:=aa.mk H;clear H;have HE:=aa.mk Xt;clear Xt
   (try dsimp only)
   go_wp2_with (refine Kd.bL rfl (br rfl rfl bR.out Try.underlying101 rfl ja.out) ?_)
   refine (ng.calls mt mc ms mr yx yy mb ec _ (Kd.av bY.out).2.2 (Kd.av bY.out).2.1 HE.out).mono ?_;rintro ev w9 ⟨rfl,hb⟩;have ah:=hb;replace HB:=mB HB ah;replace bg:=mX bg ah;replace bu:=mX bu ah;replace bQ:=mR bQ ah;replace bC:=mR bC ah;replace aT:=mX aT ah;replace bI:=mX bI ah;replace bY:=mR bY ah;replace bR:=mX bR ah;clear ah;clear hb HE;have H:=HG.out;clear HG
   cases ec with
   |false=>
    rw [ax (by decide)] at H
    obtain ⟨er,her,H⟩:=bV H;have HG:=aa.mk H;clear H;have HE:=aa.mk her;clear her
    (try dsimp only)
    go_wp2_with (refine Kd.bL rfl (br rfl rfl bR.out Try.underlying101 rfl ja.out) ?_)
    refine (mF.calls mt mc ms mr yx yy mb er _ (Kd.av bY.out).2.2 (Kd.av bY.out).2.1 HE.out).mono ?_;rintro ev j4 ⟨rfl,hb⟩;have ah:=hb;replace HB:=mB HB ah;replace bg:=mX bg ah;replace bu:=mX bu ah;replace bQ:=mR bQ ah;replace bC:=mR bC ah;replace aT:=mX aT ah;replace bI:=mX bI ah;replace bY:=mR bY ah;replace bR:=mX bR ah;clear ah;clear hb HE;have H:=HG.out;clear HG
    cases er with
    |false=>
     rw [ax (by decide)] at H
     obtain rfl:=cS H
     (try dsimp only)
     go_wp2_with (first|((refine dO rfl rfl rfl rfl rfl bg.out eI.out rfl (by simp [Value.oneCell']) ?_);intro qf hs_ ag;replace bu:=oX ag bu bg (by decide);replace bQ:=oR ag bQ bg (by decide);replace bC:=oR ag bC bg (by decide);replace aT:=oN ag aT (bD cD);replace bI:=oX ag bI bg (by decide);replace bY:=oR ag bY bg (by decide);replace bR:=oX ag bR bg (by decide);replace HB:=oB ag HB ld;clear ag;replace bg:=aa.mk hs_;clear hs_)|((refine dO rfl rfl rfl rfl rfl bu.out iT.out rfl (by simp [Value.oneCell']) ?_);intro l5 hs_ ag;replace bg:=oX ag bg bu (by decide);replace bQ:=oR ag bQ bu (by decide);replace bC:=oR ag bC bu (by decide);replace aT:=oX ag aT bu (by decide);replace bI:=oN ag bI (bD cg);replace bY:=oR ag bY bu (by decide);replace bR:=oX ag bR bu (by decide);replace HB:=oB ag HB mT;clear ag;replace bu:=aa.mk hs_;clear hs_))
     (try simp only [Exit.inBlock,Exit.then])
     refine bodyPost_ret (iz rfl _ _ _ _ _ _ _ _ (0,0) (0,0) _ _ rfl bg.out jb rfl eI.out rfl bu.out nS rfl iT.out) rfl ?_;exact ⟨_,_,_,rfl,Kd.cl _ _ _ _ _,Kd.cl _ _ _ _ _,Kd.cl _ _ _ _ _,HB.out⟩
    |true=>
     rw [au rfl] at H
     have HG:=aa.mk H;clear H
     (try dsimp only)
     have Aoq:=cz bR.out 4 rfl
     go_wp2_with fail
     clear Aoq;refine (rR.calls yx yy mb _ (HM.out _ _ _ _ _ _ HQ.out).1 (HM.out _ _ _ _ _ _ HQ.out).2 (Kd.av bY.out).2.2 (Kd.av bY.out).2.1).mono ?_;rintro ev qf ⟨rfl,hb⟩;have ah:=hb;replace HB:=mB HB ah;replace bg:=mX bg ah;replace bu:=mX bu ah;replace bQ:=mR bQ ah;replace bC:=mR bC ah;replace aT:=mX aT ah;replace bI:=mX bI ah;replace bY:=mR bY ah;replace bR:=mX bR ah;clear ah;clear hb;have H:=HG.out;clear HG;generalize yS mb=q_ at H|-
     obtain ⟨⟨qx,qp⟩,⟨qy,qr⟩,pp,hh,ok⟩:=q_;dsimp only at H|-
     go_upto_region 25 with (first|((with_reducible refine aA (N:=15) rfl ?_);refine aC ?gJ (N:=15) ?iS (cs:= #[.int .u32 0,.int .u16 0]) (t:=65) ?fq ?_;(case iS=>rfl);(case gJ=>rfl);(case fq=>first|(go_simp;done)|(go_simp;rfl));intro gx cv l5 bJ cP;have Aor:=aa.mk (show w.heap.size<=gx by rw [cv];exact af HB.out);have yT:=aa.mk bJ;have ah:=cP;replace HB:=mB HB ah;replace bg:=mX bg ah;replace bu:=mX bu ah;replace bQ:=mR bQ ah;replace bC:=mR bC ah;replace aT:=mX aT ah;replace bI:=mX bI ah;replace bY:=mR bY ah;replace bR:=mX bR ah;clear ah;clear cv bJ cP)|((with_reducible refine aA (N:=16) rfl ?_);refine aC ?gJ (N:=16) ?iS (cs:= #[.int .u32 0,.int .u16 0]) (t:=65) ?fq ?_;(case iS=>rfl);(case gJ=>rfl);(case fq=>first|(go_simp;done)|(go_simp;rfl));intro gy cv sR bJ cP;have Aos:=aa.mk (show w.heap.size<=gy by rw [cv];exact af HB.out);have z5:=aa.mk bJ;have Ee:aa (gx≠gy):=⟨by rw [cv];exact (dJ yT).out⟩;have ah:=cP;replace HB:=mB HB ah;replace bg:=mX bg ah;replace bu:=mX bu ah;replace bQ:=mR bQ ah;replace bC:=mR bC ah;replace aT:=mX aT ah;replace bI:=mX bI ah;replace bY:=mR bY ah;replace bR:=mX bR ah;replace yT:=mX yT ah;clear ah;clear cv bJ cP)|((refine dO rfl rfl rfl rfl rfl yT.out fL.out rfl (by simp [Value.oneCell']) ?_);intro qN hs_ ag;replace bg:=oX ag bg yT (by decide);replace bu:=oX ag bu yT (by decide);replace bQ:=oR ag bQ yT (by decide);replace bC:=oR ag bC yT (by decide);replace aT:=oX ag aT yT (by decide);replace bI:=oX ag bI yT (by decide);replace bY:=oR ag bY yT (by decide);replace bR:=oX ag bR yT (by decide);replace z5:=oN ag z5 (bD Ee);replace HB:=oB ag HB Aor;clear ag;replace yT:=aa.mk hs_;clear hs_)|((refine dO rfl rfl rfl rfl rfl z5.out fL.out rfl (by simp [Value.oneCell']) ?_);intro yE hs_ ag;replace bg:=oX ag bg z5 (by decide);replace bu:=oX ag bu z5 (by decide);replace bQ:=oR ag bQ z5 (by decide);replace bC:=oR ag bC z5 (by decide);replace aT:=oX ag aT z5 (by decide);replace bI:=oX ag bI z5 (by decide);replace bY:=oR ag bY z5 (by decide);replace bR:=oX ag bR z5 (by decide);replace yT:=oN ag yT Ee;replace HB:=oB ag HB Aos;clear ag;replace z5:=aa.mk hs_;clear hs_))
     cases ok with
     |false=>
      rw [ax (by decide)] at H
      obtain rfl:=cS H
      (try dsimp only)
      go_wp2_with (first|((refine dO rfl rfl rfl rfl rfl bg.out eI.out rfl (by simp [Value.oneCell']) ?_);intro qM hs_ ag;replace bu:=oX ag bu bg (by decide);replace bQ:=oR ag bQ bg (by decide);replace bC:=oR ag bC bg (by decide);replace aT:=oN ag aT (bD cD);replace bI:=oX ag bI bg (by decide);replace bY:=oR ag bY bg (by decide);replace bR:=oX ag bR bg (by decide);replace yT:=oX ag yT bg (by decide);replace z5:=oX ag z5 bg (by decide);replace HB:=oB ag HB ld;clear ag;replace bg:=aa.mk hs_;clear hs_)|((refine dO rfl rfl rfl rfl rfl bu.out iT.out rfl (by simp [Value.oneCell']) ?_);intro Bm hs_ ag;replace bg:=oX ag bg bu (by decide);replace bQ:=oR ag bQ bu (by decide);replace bC:=oR ag bC bu (by decide);replace aT:=oX ag aT bu (by decide);replace bI:=oN ag bI (bD cg);replace bY:=oR ag bY bu (by decide);replace bR:=oX ag bR bu (by decide);replace yT:=oX ag yT bu (by decide);replace z5:=oX ag z5 bu (by decide);replace HB:=oB ag HB mT;clear ag;replace bu:=aa.mk hs_;clear hs_))
      (try simp only [Exit.inBlock,Exit.then])
      refine bodyPost_ret (iz rfl _ _ _ _ _ _ _ _ (0,0) (0,0) _ _ rfl bg.out jb rfl eI.out rfl bu.out nS rfl iT.out) rfl ?_;exact ⟨_,_,_,rfl,Kd.cl _ _ _ _ _,Kd.cl _ _ _ _ _,Kd.cl _ _ _ _ _,HB.out⟩
     |true=>
      rw [au rfl] at H
      obtain rfl:=cS H
      (try dsimp only)
      go_upto_region 32 with (first|((with_reducible refine aA (N:=143) rfl ?_);refine S5 ?gJ (N:=143) ?iS ⟨qx,qp⟩ ⟨qy,qr⟩ ?fq ?_;(case iS=>rfl);(case gJ=>rfl);(case fq=>first|(go_simp;done)|(go_simp;rfl));intro Ai ci qM ho_ AhG;have lp:=aa.mk (Kd.bP ho_ (af HB.out));have ah:=AhG;replace HB:=mB HB ah;replace bg:=mX bg ah;replace bu:=mX bu ah;replace bQ:=mR bQ ah;replace bC:=mR bC ah;replace aT:=mX aT ah;replace bI:=mX bI ah;replace bY:=mR bY ah;replace bR:=mX bR ah;replace yT:=mX yT ah;replace z5:=mX z5 ah;clear ah;clear ho_ AhG)|((refine gQ rfl rfl (i:=6) (v:= .slice Ai ([⟨qx,qp⟩,⟨qy,qr⟩]:List nj).length ci) (cs':= #[.int .u8 1,.int .u32 s,.int .u16 0,.int .u32 d,.int .u16 0,.int .u8 0,.slice Ai ([⟨qx,qp⟩,⟨qy,qr⟩]:List nj).length ci]) bI.out rfl ?fq ?_);(case fq=>(have m_:=(aE bI.out 6).trans (rfl:_=some (.slice none 0 0:Value)));(have nY:=ae bI.out 6);first|(go_simp;done)|(go_simp;rfl));intro Bm hs_ ag;replace bg:=oX ag bg bI (by decide);replace bu:=oN ag bu cg;replace bQ:=oR ag bQ bI (by decide);replace bC:=oR ag bC bI (by decide);replace aT:=oX ag aT bI (by decide);replace bY:=oR ag bY bI (by decide);replace bR:=oX ag bR bI (by decide);replace yT:=oX ag yT bI (by decide);replace z5:=oX ag z5 bI (by decide);replace lp:=oI ag lp bI (by decide);replace HB:=oB ag HB nJ;clear ag;replace bI:=aa.mk hs_;clear hs_)|(refine Kd.bL rfl (br rfl rfl yT.out Try.underlying65 rfl fL.out) ?_)|(refine Kd.bL rfl (br rfl rfl z5.out Try.underlying65 rfl fL.out) ?_))
      (try dsimp only)
      go_upto_region 32 with (fail)
      refine dg (n:=5) (S:=fun w'=>w'.heap[gp]?=some (.cells #[.int .u8 a,.int .u8 t,.int .u8 1,.int .u16 i,.int .u8 fl,.int .u16 dM,.int .u32 s,.int .u32 d,.slice Ao o.length co,.slice Ab b.length cb] 73 (0,0)) /\ w'.heap[gf]?=some (.cells #[.int .u8 1,.int .u32 s,.int .u16 0,.int .u32 d,.int .u16 0,.int .u8 0,.slice Ai ([⟨qx,qp⟩,⟨qy,qr⟩]:List nj).length ci] 124 (0,0))) (ds:=[]) #[false,false,false,false,false] (by kernel_rfl) rfl rfl ⟨aT.out,bI.out⟩ (fun hHeld=> ?_);refine bH rlk.Pg.tab rlk.Pg.bits (fun az dW=> ?_);have ah:=bf (Below.refl Bm.heap.size Bm);replace HB:=mB HB ah;replace bg:=mX bg ah;replace bu:=mX bu ah;replace bQ:=mR bQ ah;replace bC:=mR bC ah;replace aT:=mX aT ah;replace bI:=mX bI ah;replace bY:=mR bY ah;replace bR:=mX bR ah
      replace yT:=mX yT ah;replace z5:=mX z5 ah;replace lp:=mI lp ah;clear ah;generalize Bm.drew=Mr at HB bg bu bQ bC aT bI bY bR yT z5 lp hHeld|-
      refine tv 0 154 (.agg #[.int .u8 a,.int .u8 t,.int .u8 1,.int .u16 i,.int .u8 fl,.int .u16 dM,.int .u32 s,.int .u32 d,.slice Ao o.length co,.slice Ab b.length cb]) az dW hHeld ?_ ?_
      ·intro w' s0
       obtain ⟨s0,s1⟩:=s0;exact br (p:= .tmp 5) (ty:=73) (by rfl) (by rfl) s0 jb (by rfl) eI.out
      refine nz 154 ?_;refine tv 1 155 (.agg #[.int .u8 1,.int .u32 s,.int .u16 0,.int .u32 d,.int .u16 0,.int .u8 0,.slice Ai ([⟨qx,qp⟩,⟨qy,qr⟩]:List nj).length ci]) az dW hHeld ?_ ?_
      ·intro w' s0
       obtain ⟨s0,s1⟩:=s0;exact br (p:= .tmp 7) (ty:=124) (by rfl) (by rfl) s1 nS (by rfl) iT.out
      refine nz 155 ?_;refine oz 2 (none) az (fun K hK=> ?_);refine cC (by rfl) (by rfl) rfl rfl rfl bg.out eI.out rfl (by simp [Value.oneCell']) ?_;intro w19 hs_ ag;replace bu:=oX ag bu bg (by decide);replace bQ:=oR ag bQ bg (by decide);replace bC:=oR ag bC bg (by decide);replace aT:=oN ag aT (bD cD);replace bI:=oX ag bI bg (by decide);replace bY:=oR ag bY bg (by decide);replace bR:=oX ag bR bg (by decide);replace yT:=oX ag yT bg (by decide);replace z5:=oX ag z5 bg (by decide);replace lp:=oI ag lp bg (by decide);replace HB:=oB ag HB ld;clear ag;replace bg:=aa.mk hs_;clear hs_;refine hK.out _ _ ⟨aT.out,bI.out⟩ (fun hHeld=> ?_);clear hK K;refine oz 3 (none) az (fun K hK=> ?_)
      refine cC (by rfl) (by rfl) rfl rfl rfl bu.out iT.out rfl (by simp [Value.oneCell']) ?_;intro UW hs_ ag;replace bg:=oX ag bg bu (by decide);replace bQ:=oR ag bQ bu (by decide);replace bC:=oR ag bC bu (by decide);replace aT:=oX ag aT bu (by decide);replace bI:=oN ag bI (bD cg);replace bY:=oR ag bY bu (by decide);replace bR:=oX ag bR bu (by decide);replace yT:=oX ag yT bu (by decide);replace z5:=oX ag z5 bu (by decide);replace lp:=oI ag lp bu (by decide);replace HB:=oB ag HB mT;clear ag;replace bu:=aa.mk hs_;clear hs_;refine hK.out _ _ ⟨aT.out,bI.out⟩ (fun hHeld=> ?_);clear hK K;refine pz 4 4 az ?_;refine dz az ?_;clear az dW hHeld
      (try dsimp only)
      go_wp2
      (try simp only [Exit.inBlock,Exit.then])
      refine bodyPost_ret (iz rfl _ _ _ _ _ _ _ _ (0,0) (0,0) _ _ rfl bg.out jb rfl eI.out rfl bu.out nS rfl iT.out) rfl ?_;exact ⟨_,_,_,rfl,bQ.out,bC.out,lp.out,HB.out⟩
   |true=>
    rw [au rfl] at H
    obtain rfl:=cS H
    (try dsimp only)
    go_upto_region 22 with (fail)
    refine dg (n:=14) (S:=fun w'=>w'.cell? ⟨gu,3,none⟩=some (.int .u32 mr)) (ds:=[]) #[false,false,false,false,false,false,false,false,false,false,false,false,false,false] (by kernel_rfl) rfl rfl ((aE bR.out 3).trans rfl) (fun hHeld=> ?_);refine bH rlk.R22.tab rlk.R22.bits (fun az dW=> ?_);have ah:=bf (Below.refl w9.heap.size w9);replace HB:=mB HB ah;replace bg:=mX bg ah;replace bu:=mX bu ah;replace bQ:=mR bQ ah;replace bC:=mR bC ah;replace aT:=mX aT ah;replace bI:=mX bI ah;replace bY:=mR bY ah;replace bR:=mX bR ah;clear ah;generalize w9.drew=j4 at HB bg bu bQ bC aT bI bY bR hHeld|-
    refine pz 0 113 az ?_;refine pz 4 117 az ?_;refine tz 1 114 az dW hHeld ?_;refine pz 2 115 az ?_;refine pz 3 116 az ?_;refine pz 8 121 az ?_;refine pz 9 122 az ?_;refine tz 5 118 az dW hHeld ?_;refine pz 6 119 az ?_;refine pz 7 120 az ?_;refine oz 10 (none) az (fun K hK=> ?_);refine fK (i:=2) (v:= .int .u16 (mr / 65536 % 65536)) (cs':= #[.int .u8 1,.int .u32 s,.int .u16 (mr / 65536 % 65536),.int .u32 d,.int .u16 0,.int .u8 0,.slice none 0 0]) (by rfl) (by rfl) bI.out rfl (by (have m_:=(aE bI.out 2).trans (rfl:_=some (.int .u16 0:Value)));(have nY:=ae bI.out 2);first|(go_simp;done)|(go_simp;rfl)) ?_;intro qf hs_ ag;replace bg:=oX ag bg bI (by decide);replace bu:=oN ag bu cg;replace bQ:=oR ag bQ bI (by decide);replace bC:=oR ag bC bI (by decide)
    replace aT:=oX ag aT bI (by decide);replace bY:=oR ag bY bI (by decide);replace bR:=oX ag bR bI (by decide);replace HB:=oB ag HB nJ;clear ag;replace bI:=aa.mk hs_;clear hs_;refine hK.out _ _ ((aE bR.out 3).trans rfl) (fun hHeld=> ?_);clear hK K;refine pz 11 123 az ?_;refine pz 12 124 az ?_;refine oz 13 (none) az (fun K hK=> ?_);refine fK (i:=4) (v:= .int .u16 (mr / 65536 % 65536)) (cs':= #[.int .u8 1,.int .u32 s,.int .u16 (mr / 65536 % 65536),.int .u32 d,.int .u16 (mr / 65536 % 65536),.int .u8 0,.slice none 0 0]) (by rfl) (by rfl) bI.out rfl (by (have m_:=(aE bI.out 4).trans (rfl:_=some (.int .u16 0:Value)));(have nY:=ae bI.out 4);first|(go_simp;done)|(go_simp;rfl)) ?_;intro l5 hs_ ag;replace bg:=oX ag bg bI (by decide);replace bu:=oN ag bu cg
    replace bQ:=oR ag bQ bI (by decide);replace bC:=oR ag bC bI (by decide);replace aT:=oX ag aT bI (by decide);replace bY:=oR ag bY bI (by decide);replace bR:=oX ag bR bI (by decide);replace HB:=oB ag HB nJ;clear ag;replace bI:=aa.mk hs_;clear hs_;refine hK.out _ _ ((aE bR.out 3).trans rfl) (fun hHeld=> ?_);clear hK K;refine dz az ?_;clear az dW hHeld
    (try dsimp only)
    go_upto_region 32 with (fail)
    refine dg (n:=5) (S:=fun w'=>w'.heap[gp]?=some (.cells #[.int .u8 a,.int .u8 t,.int .u8 1,.int .u16 i,.int .u8 fl,.int .u16 dM,.int .u32 s,.int .u32 d,.slice Ao o.length co,.slice Ab b.length cb] 73 (0,0)) /\ w'.heap[gf]?=some (.cells #[.int .u8 1,.int .u32 s,.int .u16 (mr / 65536 % 65536),.int .u32 d,.int .u16 (mr / 65536 % 65536),.int .u8 0,.slice none 0 0] 124 (0,0))) (ds:=[]) #[false,false,false,false,false] (by kernel_rfl) rfl rfl ⟨aT.out,bI.out⟩ (fun hHeld=> ?_);refine bH rlk.Pg.tab rlk.Pg.bits (fun az dW=> ?_);have ah:=bf (Below.refl l5.heap.size l5);replace HB:=mB HB ah;replace bg:=mX bg ah;replace bu:=mX bu ah;replace bQ:=mR bQ ah;replace bC:=mR bC ah;replace aT:=mX aT ah;replace bI:=mX bI ah;replace bY:=mR bY ah;replace bR:=mX bR ah;clear ah
    generalize l5.drew=sR at HB bg bu bQ bC aT bI bY bR hHeld|-
    refine tv 0 154 (.agg #[.int .u8 a,.int .u8 t,.int .u8 1,.int .u16 i,.int .u8 fl,.int .u16 dM,.int .u32 s,.int .u32 d,.slice Ao o.length co,.slice Ab b.length cb]) az dW hHeld ?_ ?_
    ·intro w' s0
     obtain ⟨s0,s1⟩:=s0;exact br (p:= .tmp 5) (ty:=73) (by rfl) (by rfl) s0 jb (by rfl) eI.out
    refine nz 154 ?_;refine tv 1 155 (.agg #[.int .u8 1,.int .u32 s,.int .u16 (mr / 65536 % 65536),.int .u32 d,.int .u16 (mr / 65536 % 65536),.int .u8 0,.slice none 0 0]) az dW hHeld ?_ ?_
    ·intro w' s0
     obtain ⟨s0,s1⟩:=s0;exact br (p:= .tmp 7) (ty:=124) (by rfl) (by rfl) s1 nS (by rfl) iT.out
    refine nz 155 ?_;refine oz 2 (none) az (fun K hK=> ?_);refine cC (by rfl) (by rfl) rfl rfl rfl bg.out eI.out rfl (by simp [Value.oneCell']) ?_;intro qN hs_ ag;replace bu:=oX ag bu bg (by decide);replace bQ:=oR ag bQ bg (by decide);replace bC:=oR ag bC bg (by decide);replace aT:=oN ag aT (bD cD);replace bI:=oX ag bI bg (by decide);replace bY:=oR ag bY bg (by decide);replace bR:=oX ag bR bg (by decide);replace HB:=oB ag HB ld;clear ag;replace bg:=aa.mk hs_;clear hs_;refine hK.out _ _ ⟨aT.out,bI.out⟩ (fun hHeld=> ?_);clear hK K;refine oz 3 (none) az (fun K hK=> ?_);refine cC (by rfl) (by rfl) rfl rfl rfl bu.out iT.out rfl (by simp [Value.oneCell']) ?_;intro yE hs_ ag;replace bg:=oX ag bg bu (by decide);replace bQ:=oR ag bQ bu (by decide)
    replace bC:=oR ag bC bu (by decide);replace aT:=oX ag aT bu (by decide);replace bI:=oN ag bI (bD cg);replace bY:=oR ag bY bu (by decide);replace bR:=oX ag bR bu (by decide);replace HB:=oB ag HB mT;clear ag;replace bu:=aa.mk hs_;clear hs_;refine hK.out _ _ ⟨aT.out,bI.out⟩ (fun hHeld=> ?_);clear hK K;refine pz 4 4 az ?_;refine dz az ?_;clear az dW hHeld
    (try dsimp only)
    go_wp2
    (try simp only [Exit.inBlock,Exit.then])
    refine bodyPost_ret (iz rfl _ _ _ _ _ _ _ _ (0,0) (0,0) _ _ rfl bg.out jb rfl eI.out rfl bu.out nS rfl iT.out) rfl ?_;exact ⟨_,_,_,rfl,bQ.out,bC.out,Kd.cl _ _ _ _ _,HB.out⟩
 ·have Bl:(e2==0)=false:=fc ce
  have Je:(e2 !=0)=true:=bne_iff_ne.2 ce;rw [ax ce] at H
  clear ce;obtain rfl:=cS H
  (try dsimp only)
  go_wp2_with (first|((refine dO rfl rfl rfl rfl rfl bg.out eI.out rfl (by simp [Value.oneCell']) ?_);intro w9 hs_ ag;replace bu:=oX ag bu bg (by decide);replace bQ:=oR ag bQ bg (by decide);replace bC:=oR ag bC bg (by decide);replace aT:=oN ag aT (bD cD);replace bI:=oX ag bI bg (by decide);replace bY:=oR ag bY bg (by decide);replace bR:=oX ag bR bg (by decide);replace HB:=oB ag HB ld;clear ag;replace bg:=aa.mk hs_;clear hs_)|((refine dO rfl rfl rfl rfl rfl bu.out iT.out rfl (by simp [Value.oneCell']) ?_);intro j4 hs_ ag;replace bg:=oX ag bg bu (by decide);replace bQ:=oR ag bQ bu (by decide);replace bC:=oR ag bC bu (by decide);replace aT:=oX ag aT bu (by decide);replace bI:=oN ag bI (bD cg);replace bY:=oR ag bY bu (by decide);replace bR:=oX ag bR bu (by decide);replace HB:=oB ag HB mT;clear ag;replace bu:=aa.mk hs_;clear hs_))
  (try simp only [Exit.inBlock,Exit.then])
  refine bodyPost_ret (iz rfl _ _ _ _ _ _ _ _ (0,0) (0,0) _ _ rfl bg.out jb rfl eI.out rfl bu.out nS rfl iT.out) rfl ?_;exact ⟨_,_,_,rfl,Kd.cl _ _ _ _ _,Kd.cl _ _ _ _ _,Kd.cl _ _ _ _ _,HB.out⟩
theorem rlk.bad (k:Nat) (A:Option Addr) (c:Nat) (l:List Int) (a t pr i fl dM s d:Int) (o b:List Int) (e_:Int) (w:World) (hC:Kd.C (Kd.int .u8) w A l.length l) (hL:l.length<=c) (hP:bB.f k l=some (a,t,pr,i,fl,dM,s,d,o,b,e_)) (he:¬ e_=0):
  Calls Try.prog 66 #[.slice A l.length c] w fun e w'=>(LK.err e_).Told w.heap.size w e w':=by
 have jb:=Try.underlying73;have nS:=Try.underlying124;have HB:=gj w;have HC:=aa.mk hC;have HL:=aa.mk hL;have HP:=aa.mk hP;have eI:aa ((Try.prog.info? 73).map (·.size)=some 10):=⟨by kernel_rfl⟩
 have iT:aa ((Try.prog.info? 124).map (·.size)=some 7):=⟨by kernel_rfl⟩
 clear hC hL hP
 go_enter Try.func66,Try.ntmps66
 go_upto_region 1 with (first|((with_reducible refine aA (N:=2) rfl ?_);refine aC ?gJ (N:=2) ?iS (cs:= #[.int .u8 0,.int .u8 0,.int .u8 0,.int .u16 0,.int .u8 0,.int .u16 0,.int .u32 0,.int .u32 0,.slice none 0 0,.slice none 0 0]) (t:=73) ?fq ?_;(case iS=>rfl);(case gJ=>rfl);(case fq=>first|(go_simp;done)|(go_simp;rfl));intro gi cv w1 bJ cP;have ld:=aa.mk (show w.heap.size<=gi by rw [cv];exact af HB.out);have bg:=aa.mk bJ;have ah:=cP;replace HB:=mB HB ah;clear ah;clear cv bJ cP)|((with_reducible refine aA (N:=3) rfl ?_);refine aC ?gJ (N:=3) ?iS (cs:= #[.int .u8 0,.int .u32 0,.int .u16 0,.int .u32 0,.int .u16 0,.int .u8 0,.slice none 0 0]) (t:=124) ?fq ?_;(case iS=>rfl);(case gJ=>rfl);(case fq=>first|(go_simp;done)|(go_simp;rfl));intro gq cv w2 bJ cP;have mT:=aa.mk (show w.heap.size<=gq by rw [cv];exact af HB.out);have bu:=aa.mk bJ;have ah:=cP;replace HB:=mB HB ah;replace bg:=mX bg ah;clear ah;clear cv bJ cP))
 go_wp2_with fail
 refine (bB.calls k A c l a t pr i fl dM s d o b e_ _ (Kd.aU HC.out HB.out) HL.out HP.out).mono ?_;rintro ev w3 ⟨vo,vb,rfl,ho,qn,hb⟩;have bQ:=lD ho HB;obtain ⟨Ao,co,rfl,_,_⟩:=Kd.bW ho;clear ho;have bC:=lD qn HB;obtain ⟨Ab,cb,rfl,_,_⟩:=Kd.bW qn;clear qn;have ah:=hb;replace HB:=mB HB ah;replace bg:=mX bg ah;replace bu:=mX bu ah;clear ah;clear hb HP HC HL
 (try dsimp only)
 go_upto_region 2 with (((refine eu rfl rfl rfl rfl rfl eI.out rfl (by simp [Value.oneCell']) ?_);intro fB gH cO))
 revert fB gH cO;intro w4 gH cO;have aT:aa (w4.heap[w3.heap.size]?=some (.cells #[.int .u8 a,.int .u8 t,.int .u8 pr,.int .u16 i,.int .u8 fl,.int .u16 dM,.int .u32 s,.int .u32 d,.slice Ao o.length co,.slice Ab b.length cb] 73 (0,0))):=⟨gH⟩
 have lE:=wN HB;have cD:=dJ bg;have ah:=cO;replace HB:=mB HB ah;replace bg:=mX bg ah;replace bu:=mX bu ah;replace bQ:=mR bQ ah;replace bC:=mR bC ah;clear ah;clear gH cO;generalize w3.heap.size=gp at aT lE cD|-
 have Uy:(e_==0)=false:=fc he;have he2:(e_ !=0)=true:=bne_iff_ne.2 he;clear he;have H:some (LK.err e_)=some (LK.err e_):=rfl
 (try dsimp only)
 go_wp2_with (first|((refine dO rfl rfl rfl rfl rfl bg.out eI.out rfl (by simp [Value.oneCell']) ?_);intro w5 hs_ ag;replace bu:=oX ag bu bg (by decide);replace bQ:=oR ag bQ bg (by decide);replace bC:=oR ag bC bg (by decide);replace aT:=oN ag aT (bD cD);replace HB:=oB ag HB ld;clear ag;replace bg:=aa.mk hs_;clear hs_)|((refine dO rfl rfl rfl rfl rfl bu.out iT.out rfl (by simp [Value.oneCell']) ?_);intro w6 hs_ ag;replace bg:=oX ag bg bu (by decide);replace bQ:=oR ag bQ bu (by decide);replace bC:=oR ag bC bu (by decide);replace aT:=oX ag aT bu (by decide);replace HB:=oB ag HB mT;clear ag;replace bu:=aa.mk hs_;clear hs_))
 (try simp only [Exit.inBlock,Exit.then])
 refine bodyPost_ret (iz rfl _ _ _ _ _ _ _ _ (0,0) (0,0) _ _ rfl bg.out jb rfl eI.out rfl bu.out nS rfl iT.out) rfl ?_;exact ⟨_,_,_,rfl,Kd.cl _ _ _ _ _,Kd.cl _ _ _ _ _,Kd.cl _ _ _ _ _,HB.out⟩
theorem rlk.other (k:Nat) (A:Option Addr) (c:Nat) (l:List Int) (a t pr i fl dM s d:Int) (o b:List Int) (w:World) (hC:Kd.C (Kd.int .u8) w A l.length l) (hL:l.length<=c) (hP:bB.f k l=some (a,t,pr,i,fl,dM,s,d,o,b,0)) (TW:¬ pr=17) (n6:¬ pr=6) (n1:¬ pr=1):
  Calls Try.prog 66 #[.slice A l.length c] w fun e w'=>(LK.err 21).Told w.heap.size w e w':=by
 have jb:=Try.underlying73;have nS:=Try.underlying124;have HB:=gj w;have HC:=aa.mk hC;have HL:=aa.mk hL;have HP:=aa.mk hP;have eI:aa ((Try.prog.info? 73).map (·.size)=some 10):=⟨by kernel_rfl⟩
 have iT:aa ((Try.prog.info? 124).map (·.size)=some 7):=⟨by kernel_rfl⟩
 clear hC hL hP
 go_enter Try.func66,Try.ntmps66
 go_upto_region 1 with (first|((with_reducible refine aA (N:=2) rfl ?_);refine aC ?gJ (N:=2) ?iS (cs:= #[.int .u8 0,.int .u8 0,.int .u8 0,.int .u16 0,.int .u8 0,.int .u16 0,.int .u32 0,.int .u32 0,.slice none 0 0,.slice none 0 0]) (t:=73) ?fq ?_;(case iS=>rfl);(case gJ=>rfl);(case fq=>first|(go_simp;done)|(go_simp;rfl));intro gi cv w1 bJ cP;have ld:=aa.mk (show w.heap.size<=gi by rw [cv];exact af HB.out);have bg:=aa.mk bJ;have ah:=cP;replace HB:=mB HB ah;clear ah;clear cv bJ cP)|((with_reducible refine aA (N:=3) rfl ?_);refine aC ?gJ (N:=3) ?iS (cs:= #[.int .u8 0,.int .u32 0,.int .u16 0,.int .u32 0,.int .u16 0,.int .u8 0,.slice none 0 0]) (t:=124) ?fq ?_;(case iS=>rfl);(case gJ=>rfl);(case fq=>first|(go_simp;done)|(go_simp;rfl));intro gq cv w2 bJ cP;have mT:=aa.mk (show w.heap.size<=gq by rw [cv];exact af HB.out);have bu:=aa.mk bJ;have ah:=cP;replace HB:=mB HB ah;replace bg:=mX bg ah;clear ah;clear cv bJ cP))
 go_wp2_with fail
 refine (bB.calls k A c l a t pr i fl dM s d o b 0 _ (Kd.aU HC.out HB.out) HL.out HP.out).mono ?_;rintro ev w3 ⟨vo,vb,rfl,ho,qn,hb⟩;have bQ:=lD ho HB;obtain ⟨Ao,co,rfl,_,_⟩:=Kd.bW ho;clear ho;have bC:=lD qn HB;obtain ⟨Ab,cb,rfl,_,_⟩:=Kd.bW qn;clear qn;have ah:=hb;replace HB:=mB HB ah;replace bg:=mX bg ah;replace bu:=mX bu ah;clear ah;clear hb HP HC HL
 (try dsimp only)
 go_upto_region 2 with (((refine eu rfl rfl rfl rfl rfl eI.out rfl (by simp [Value.oneCell']) ?_);intro fB gH cO))
 revert fB gH cO;intro w4 gH cO;have aT:aa (w4.heap[w3.heap.size]?=some (.cells #[.int .u8 a,.int .u8 t,.int .u8 pr,.int .u16 i,.int .u8 fl,.int .u16 dM,.int .u32 s,.int .u32 d,.slice Ao o.length co,.slice Ab b.length cb] 73 (0,0))):=⟨gH⟩
 have lE:=wN HB;have cD:=dJ bg;have ah:=cO;replace HB:=mB HB ah;replace bg:=mX bg ah;replace bu:=mX bu ah;replace bQ:=mR bQ ah;replace bC:=mR bC ah;clear ah;clear gH cO;generalize w3.heap.size=gp at aT lE cD|-
 have nl:=cz aT.out 2 rfl;have su:=cz aT.out 6 rfl;have sM:=cz aT.out 7 rfl
 go_upto_region 5 with (((refine eu rfl rfl rfl rfl rfl iT.out rfl (by simp [Value.oneCell']) ?_);intro fB gH cO))
 clear nl su sM;revert fB gH cO;intro w5 gH cO;have bI:aa (w5.heap[w4.heap.size]?=some (.cells #[.int .u8 pr,.int .u32 s,.int .u16 0,.int .u32 d,.int .u16 0,.int .u8 0,.slice none 0 0] 124 (0,0))):=⟨gH⟩
 have nJ:=wN HB;have cg:=dJ bu;have ah:=cO;replace HB:=mB HB ah;replace bg:=mX bg ah;replace bu:=mX bu ah;replace bQ:=mR bQ ah;replace bC:=mR bC ah;replace aT:=mX aT ah;clear ah;clear gH cO;generalize w4.heap.size=gf at bI nJ cg|-
 have nl:=cz aT.out 2 rfl;have AlA:(pr==17)=false:=fc TW;have AlB:(pr !=17)=true:=bne_iff_ne.2 TW;have n61:(pr==6)=false:=fc n6;have n62:(pr !=6)=true:=bne_iff_ne.2 n6;have n11:(pr==1)=false:=fc n1;have n12:(pr !=1)=true:=bne_iff_ne.2 n1;clear TW n6 n1;have H:some (LK.err 21)=some (LK.err 21):=rfl
 (try dsimp only)
 go_wp2_with (first|((refine dO rfl rfl rfl rfl rfl bg.out eI.out rfl (by simp [Value.oneCell']) ?_);intro w6 hs_ ag;replace bu:=oX ag bu bg (by decide);replace bQ:=oR ag bQ bg (by decide);replace bC:=oR ag bC bg (by decide);replace aT:=oN ag aT (bD cD);replace bI:=oX ag bI bg (by decide);replace HB:=oB ag HB ld;clear ag;replace bg:=aa.mk hs_;clear hs_)|((refine dO rfl rfl rfl rfl rfl bu.out iT.out rfl (by simp [Value.oneCell']) ?_);intro w7 hs_ ag;replace bg:=oX ag bg bu (by decide);replace bQ:=oR ag bQ bu (by decide);replace bC:=oR ag bC bu (by decide);replace aT:=oX ag aT bu (by decide);replace bI:=oN ag bI (bD cg);replace HB:=oB ag HB mT;clear ag;replace bu:=aa.mk hs_;clear hs_))
 (try simp only [Exit.inBlock,Exit.then])
 refine bodyPost_ret (iz rfl _ _ _ _ _ _ _ _ (0,0) (0,0) _ _ rfl bg.out jb rfl eI.out rfl bu.out nS rfl iT.out) rfl ?_;exact ⟨_,_,_,rfl,Kd.cl _ _ _ _ _,Kd.cl _ _ _ _ _,Kd.cl _ _ _ _ _,HB.out⟩
theorem Ed.calls (k:Nat) (A:Option Addr) (c:Nat) (l:List Int) (r:LK) (w:World) (hC:Kd.C (Kd.int .u8) w A l.length l) (hL:l.length<=c) (h:Ed.f k l=some r) (hm:∀ a t pr i fl dM s d o b e_,bB.f k l=some (a,t,pr,i,fl,dM,s,d,o,b,e_) ->∀ mt mc ms mr mb e,eS.f b=some (mt,mc,ms,mr,mb,e) ->gU mb /\ mb.length<=100000):
  Calls Try.prog 66 #[.slice A l.length c] w fun e w'=>r.Told w.heap.size w e w':=by
 unfold Ed.f at h
 obtain ⟨⟨a,t,pr,i,fl,dM,s,d,o,b,e_⟩,hp,h⟩:=bV h;dsimp only at h
 by_cases he:e_=0
 ·rw [au he] at h
  subst he
  by_cases Jg:pr=17
  ·rw [au Jg] at h
   subst Jg;exact rlk.udp k A c l a t i fl dM s d o b r w hC hL hp h
  ·rw [ax Jg] at h
   by_cases h6:pr=6
   ·rw [au h6] at h
    subst h6;exact rlk.tcp k A c l a t i fl dM s d o b r w hC hL hp h
   ·rw [ax h6] at h
    by_cases h1:pr=1
    ·rw [au h1] at h
     subst h1;exact rlk.wC k A c l a t i fl dM s d o b r w hC hL hp h (hm _ _ _ _ _ _ _ _ _ _ _ hp)
    ·rw [ax h1] at h
     obtain rfl:=cS h;exact rlk.other k A c l a t pr i fl dM s d o b w hC hL hp Jg h6 h1
 ·rw [ax he] at h
  obtain rfl:=cS h;exact rlk.bad k A c l a t pr i fl dM s d o b e_ w hC hL hp he
end Go.Proofs.Ytkmimamminddiaa.PB
namespace Go.Proofs.Ytkmimamminddiaa.Pure
open Go.RowKit Go.Proofs.Ytkmimamminddiaa.PB Go.Proofs.ai.bX Go.Proofs.ai.dh
open Go.Proofs.Ytkmimamminddiaa.Spec Go.Proofs.Ytkmimamminddiaa.j8
section
variable {a t i fl dM s d:Int} {o b:List Int}
theorem S6 (hs:sB s) (hd:sB d) (hb:gU b) (hl:b.length<=3000):∃ r:LK,vJ 4000 a t i fl dM s d o b=some r /\ Eb 4000 a t i fl dM s d o b=some r /\ r.wz.length<=2:=by
 obtain ⟨us,ud,uc,ub,e,hu,h1,h2,h3,h4,h5⟩:=L3 hb;unfold vJ Eb;rw [Fo hb (by omega),DP hb (by omega),hu,bA,bA]
 dsimp only
 rw [OP hs hd h1 h2 h3 h4 (by omega) 4000 (Nat.le_refl _),LR hs hd h1 h2 h3 h4 (by omega) 4000 (Nat.le_refl _),bA,bA];generalize decide (uc=0 \/ uc=BI (pK s d us ud ub))=rt
 by_cases he:e=0
 ·rw [au he];try rw [au he]
  cases rt<;>exact ⟨_,rfl,rfl,Nat.zero_le _⟩
 ·rw [ax he];try rw [ax he]
  exact ⟨_,rfl,rfl,Nat.zero_le _⟩
theorem S7 (hs:sB s) (hd:sB d) (hb:gU b) (hl:b.length<=3000):∃ r:LK,vK 4000 a t i fl dM s d o b=some r /\ Ec 4000 a t i fl dM s d o b=some r /\ r.wz.length<=2:=by
 obtain ⟨ts,td,tq,ta,tf,tw,tc,tu,nf,tb,e,hu,h1,h2,h3,h4,h5,h6,h7,h8,h9,h10,SP,FL,h13⟩:=Hf hb;unfold vK Ec;rw [Ff hb (by omega),DH hb (by omega),hu,bA,bA]
 dsimp only
 rw [OL hs hd h5 h9 h10 SP FL (by omega) 4000 (Nat.le_refl _),LO hs hd h5 h9 h10 SP FL (by omega) 4000 (Nat.le_refl _),bA,bA];generalize (norm (tT s d (l7 ts td tq ta tf tw tc tu nf tb))==65535)=rt
 by_cases he:e=0
 ·rw [au he];try rw [au he]
  cases rt<;>exact ⟨_,rfl,rfl,Nat.zero_le _⟩
 ·rw [ax he];try rw [ax he]
  exact ⟨_,rfl,rfl,Nat.zero_le _⟩
theorem O1 (hb:gU b) (hl:b.length<=3000):∃ r:LK,pZ 4000 a t i fl dM s d o b=some r /\ zZ 4000 a t i fl dM s d o b=some r /\ r.wz.length<=2:=by
 obtain ⟨mt,mc,ms,mr,mb,e,hu,h1,h2,h3,h4,h5,h6⟩:=Cm hb;unfold pZ zZ;rw [iD.uH hb (by omega),iD.qH hb (by omega),hu,bA,bA]
 dsimp only
 obtain ⟨r1,r2⟩:=iD.OQ (s:=ms) (r:=mr) h1 h2 h5 (by omega) 4000 (Nat.le_refl _);obtain ⟨ec,e1,e2⟩:=iD.VV mt mc ms mr ms mr mb mb;obtain ⟨er,e3,e4⟩:=iD.SN mt mc ms mr mc ms mr mb mb;rw [r1,r2,e1,e2,e3,e4,Kh h5 (by omega) 4000 (by omega)];simp only [bA];generalize (norm (oT (words (iD.f5 mt mc ms mr mb)))==65535)=rt
 by_cases he:e=0
 ·rw [au he];try rw [au he]
  cases rt with
  |false=>exact ⟨_,rfl,rfl,Nat.zero_le _⟩
  |true=>
   rw [au rfl];try rw [au rfl]
   cases ec with
   |true=>exact ⟨_,rfl,rfl,Nat.zero_le _⟩
   |false=>
    rw [ax (by decide)];try rw [ax (by decide)]
    cases er with
    |false=>exact ⟨_,rfl,rfl,Nat.zero_le _⟩
    |true=>
     rw [au rfl];try rw [au rfl]
     cases hw:jh mb with
     |none=>
      rw [qd hw,show xq mb=none by unfold xq;rw [hw];rfl];exact ⟨_,rfl,rfl,Nat.zero_le _⟩
     |some y=>
      rw [xu hw,show xq mb=some (⟨sy mb 12,(qK mb y.toNat).1⟩,⟨sy mb 16,(qK mb y.toNat).2⟩) by unfold xq;rw [hw];rfl];exact ⟨_,rfl,rfl,Nat.le_refl _⟩
 ·rw [ax he];try rw [ax he]
  exact ⟨_,rfl,rfl,Nat.zero_le _⟩
end
theorem O2 {l:List Int} (h:gU l) (hl:l.length<=3000):∃ r:LK,jN.f 4000 l=some r /\ Ed.f 4000 l=some r /\ r.wz.length<=2:=by
 obtain ⟨s0,hp,hq,hs⟩:=both h (by omega) 4000 (by omega);obtain ⟨a,t,pr,i,fl,dM,s,d,o,b,e,hi,ha,ht,Kl,hii,hfl,SX,hs',hd',ho,ho4,AhH,hb,V3⟩:=He h;rw [hs,hi] at hp hq
 unfold jN.f Ed.f;rw [hp,hq,bA,bA]
 dsimp only
 by_cases he:e=0
 ·rw [au he];try rw [au he]
  by_cases Jg:pr=17
  ·rw [au Jg];try rw [au Jg]
   exact S6 hs' hd' hb (by omega)
  ·rw [ax Jg];try rw [ax Jg]
   by_cases h6:pr=6
   ·rw [au h6];try rw [au h6]
    exact S7 hs' hd' hb (by omega)
   ·rw [ax h6];try rw [ax h6]
    by_cases h1:pr=1
    ·rw [au h1];try rw [au h1]
     exact O1 hb (by omega)
    ·rw [ax h1];try rw [ax h1]
     exact ⟨_,rfl,rfl,Nat.zero_le _⟩
 ·rw [ax he];try rw [ax he]
  exact ⟨_,rfl,rfl,Nat.zero_le _⟩
theorem V4 {l:List Int} (h:gU l) (hl:l.length<=3000):∀ a t pr i fl dM s d o b e_,bB.f 4000 l=some (a,t,pr,i,fl,dM,s,d,o,b,e_) ->∀ mt mc ms mr mb e,eS.f b=some (mt,mc,ms,mr,mb,e) ->gU mb /\ mb.length<=100000:=by
 intro a t pr i fl dM s d o b e_ hp mt mc ms mr mb e hm;obtain ⟨a',t',pr',i',fl',of',s',d',o',b',e',hi,_,_,_,_,_,_,_,_,_,_,_,hb,V3⟩:=He h;rw [qH h (by omega) 4000 (by omega),hi,Option.some.injEq] at hp
 obtain rfl:b'=b:=congrArg (fun x=>x.2.2.2.2.2.2.2.2.2.1) hp;obtain ⟨mt',mc',ms',mr',mb',e2,hu,_,_,_,_,h5,h6⟩:=Cm hb;rw [iD.qH hb (by omega),hu,Option.some.injEq] at hm
 obtain rfl:mb'=mb:=congrArg (fun x=>x.2.2.2.2.1) hm;exact ⟨h5,by omega⟩
end Go.Proofs.Ytkmimamminddiaa.Pure
namespace Go.Proofs.Ytkmimamminddiaa.PB
open Go.RowKit Go.Proofs.ai.bX Go.Proofs.ai.dh Go.Proofs.ai.iL
def xw (k:Nat) (r:LK) (si di:Int) (y:List Int):Option (List Int×Int):=(aI.f k r.a r.t r.pr r.i r.fl r.dM si di r.o y).bind fun z=>some (z.1,0)
def S8 (k:Nat) (r:LK) (si sp di dp:Int):Option (List Int×Int):=
 (lY.f r.b).bind fun ⟨us,ud,uc,ub,e⟩=>if uc=0 then (bT.f sp dp uc ub).bind fun y=>xw k r si di y.1
  else (jn.f k si di sp dp uc ub).bind fun c=>(bT.f sp dp c ub).bind fun y=>xw k r si di y.1
def S9 (k:Nat) (r:LK) (si sp di dp:Int):Option (List Int×Int):=
 (fZ.f r.b).bind fun ⟨ts,td,tq,ta,tf,tw,tc,tu,nf,tb,e⟩=>(gT.f k si di sp dp tq ta tf tw tc tu nf tb).bind fun c=>(aD.f k sp dp tq ta tf tw c tu nf tb).bind fun y=>xw k r si di y.1
def Fx (k:Nat) (r:LK) (si di mt mc ms mr:Int) (mb:List Int):Option (List Int×Int):=
 (eW.f k mt mc ms mr mb).bind fun c=>(bG.f mt mc c mr mb).bind fun y=>xw k r si di y.1
def L7 (k:Nat) (r:LK) (si sp di dp:Int):Option (List Int×Int):=
 (eS.f r.b).bind fun ⟨mt,mc,ms,mr,mb,e⟩=>if 0<r.wz.length then (if sp=0 then (if dp=0 then Fx k r si di mt mc ms mr mb else some ([],21)) else some ([],21))
  else if sp=dp then Fx k r si di mt mc ms (Go.bits .or .u32 (sp % 4294967296*65536 % 4294967296) (Go.bits .and .u32 mr 65535)) mb else some ([],21)
def xx (k:Nat) (r:LK) (si sp di dp:Int):Option (List Int×Int):=
 if r.e=0 then (if r.pr=17 then S8 k r si sp di dp else if r.pr=6 then S9 k r si sp di dp else L7 k r si sp di dp) else some ([],r.e)
def Fy.R4.T:Bool×List (List Nat×List Nat):=(true,[([],[]),([0],[0]),([],[]),([2],[2]),([0,1],[]),([4,1,0,1],[1,4]),([0,1,2,3,4,5],[]),([6,3,5,0,1,2,3,4,5],[3,6])])
theorem Fy.R4.tab:gS .any (opsOf Try.f33 4)=Fy.R4.T:=by kernel_rfl
theorem Fy.R4.bits:dN Fy.R4.T.2 [0,1,0,4,3,19,63,127]=true:=by kernel_rfl
def Fy.R17.T:Bool×List (List Nat×List Nat):=(true,[([],[]),([0],[0]),([],[]),([2],[2]),([0,1],[]),([4,1,0,1],[1,4]),([0,1,2,3,4,5],[]),([6,3,5,0,1,2,3,4,5],[3,6])])
theorem Fy.R17.tab:gS .any (opsOf Try.f33 17)=Fy.R17.T:=by kernel_rfl
theorem Fy.R17.bits:dN Fy.R17.T.2 [0,1,0,4,3,19,63,127]=true:=by kernel_rfl
def Fy.R23.T:Bool×List (List Nat×List Nat):=(true,[([],[]),([0],[0]),([],[]),([2],[2]),([0,1],[]),([4,1,0,1],[1,4]),([0,1,2,3,4,5],[]),([6,3,5,0,1,2,3,4,5],[3,6])])
theorem Fy.R23.tab:gS .any (opsOf Try.f33 23)=Fy.R23.T:=by kernel_rfl
theorem Fy.R23.bits:dN Fy.R23.T.2 [0,1,0,4,3,19,63,127]=true:=by kernel_rfl
theorem V5.via (k:Nat) (A:Option Addr) (c:Nat) (l:List Int) (r:LK) (si sp di dp:Int) (rb:List Int) (re:Int) (w:World) (hC:Kd.C (Kd.int .u8) w A l.length l) (hL:l.length<=c) (h66:∀ w2:World,Kd.C (Kd.int .u8) w2 A l.length l ->Calls Try.prog 66 #[.slice A l.length c] w2 fun e w'=>r.Told w2.heap.size w2 e w') (h:xx k r si sp di dp=some (rb,re)):
  Calls Try.prog 33 #[.slice A l.length c,.agg #[.int .u32 si,.int .u16 sp],.agg #[.int .u32 di,.int .u16 dp]] w fun e w'=>∃ v:Value,e= .returned (.tuple #[v,.int .i64 re]) /\ Kd.R (Kd.int .u8) 5 w' w.heap.size (fun _=>True) v rb /\ Below w.heap.size w w':=by
 have iQ:=Try.underlying65;have jb:=Try.underlying73;have wB:=Try.underlying83;have ny:=Try.underlying101;have nS:=Try.underlying124;have qU:=Try.underlying137;obtain ⟨a,t,pr,i,fl,dM,s,d,o,b,x,sp_,dp_,ff,wz,e_⟩:=r;have HB:=gj w;have HC:=aa.mk hC;have HL:=aa.mk hL;have H66:=aa.mk h66;have HF:=aa.mk h;have fL:aa ((Try.prog.info? 65).map (·.size)=some 2):=⟨by kernel_rfl⟩
 have eI:aa ((Try.prog.info? 73).map (·.size)=some 10):=⟨by kernel_rfl⟩
 have qB:aa ((Try.prog.info? 83).map (·.size)=some 4):=⟨by kernel_rfl⟩
 have ja:aa ((Try.prog.info? 101).map (·.size)=some 5):=⟨by kernel_rfl⟩
 have iT:aa ((Try.prog.info? 124).map (·.size)=some 7):=⟨by kernel_rfl⟩
 have jT:aa ((Try.prog.info? 137).map (·.size)=some 10):=⟨by kernel_rfl⟩
 clear hC hL h66 h
 go_enter Try.func33,Try.ntmps33
 go_upto_region 1 with (first|((with_reducible refine aA (N:=4) rfl ?_);refine aC ?gJ (N:=4) ?iS (cs:= #[.int .u32 si,.int .u16 sp]) (t:=65) ?fq ?_;(case iS=>rfl);(case gJ=>rfl);(case fq=>first|(go_simp;done)|(go_simp;rfl));intro gs cv w1 bJ cP;have Dc:=aa.mk (show w.heap.size<=gs by rw [cv];exact af HB.out);have cM:=aa.mk bJ;have ah:=cP;replace HB:=mB HB ah;clear ah;clear cv bJ cP)|((with_reducible refine aA (N:=5) rfl ?_);refine aC ?gJ (N:=5) ?iS (cs:= #[.int .u32 di,.int .u16 dp]) (t:=65) ?fq ?_;(case iS=>rfl);(case gJ=>rfl);(case fq=>first|(go_simp;done)|(go_simp;rfl));intro gd cv w2 bJ cP;have Dd:=aa.mk (show w.heap.size<=gd by rw [cv];exact af HB.out);have cE:=aa.mk bJ;have iG:aa (gs≠gd):=⟨by rw [cv];exact (dJ cM).out⟩;have ah:=cP;replace HB:=mB HB ah;replace cM:=mX cM ah;clear ah;clear cv bJ cP))
 go_wp2_with fail
 refine (H66.out _ (Kd.aU HC.out HB.out)).mono ?_;rintro ev w3 hpost;obtain ⟨v8,v9,vi,rfl,El,xR,hi,hb⟩:=hpost;dsimp only at El xR hi
 have bQ:=aa.mk (Kd.bP El (af HB.out));have bC:=aa.mk (Kd.bP xR (af HB.out));obtain ⟨Ao,co,rfl,_,_⟩:=Kd.bW El;obtain ⟨Ab,cb,rfl,_,_⟩:=Kd.bW xR;obtain ⟨Ai,ci,rfl,_,_⟩:=Kd.bW hi;clear El xR hi;have ah:=hb;replace HB:=mB HB ah;replace cM:=mX cM ah;replace cE:=mX cE ah;clear ah;clear hb
 (try dsimp only)
 go_upto_region 2 with (first|((with_reducible refine aA (N:=8) rfl ?_);refine aC ?gJ (N:=8) ?iS (cs:= #[.int .u8 0,.int .u8 0,.int .u8 0,.int .u16 0,.int .u8 0,.int .u16 0,.int .u32 0,.int .u32 0,.slice none 0 0,.slice none 0 0]) (t:=73) ?fq ?_;(case iS=>rfl);(case gJ=>rfl);(case fq=>first|(go_simp;done)|(go_simp;rfl));intro gp cv w4 bJ cP;have lE:=aa.mk (show w.heap.size<=gp by rw [cv];exact af HB.out);have aT:=aa.mk bJ;have ah:=cP;replace HB:=mB HB ah;replace cM:=mX cM ah;replace cE:=mX cE ah;replace bQ:=mR bQ ah;replace bC:=mR bC ah;clear ah;clear cv bJ cP)|((with_reducible refine aA (N:=9) rfl ?_);refine aC ?gJ (N:=9) ?iS (cs:= #[.int .u8 0,.int .u32 0,.int .u16 0,.int .u32 0,.int .u16 0,.int .u8 0,.slice none 0 0]) (t:=124) ?fq ?_;(case iS=>rfl);(case gJ=>rfl);(case fq=>first|(go_simp;done)|(go_simp;rfl));intro gf cv w5 bJ cP;have nJ:=aa.mk (show w.heap.size<=gf by rw [cv];exact af HB.out);have bI:=aa.mk bJ;have ah:=cP;replace HB:=mB HB ah;replace cM:=mX cM ah;replace cE:=mX cE ah;replace bQ:=mR bQ ah;replace bC:=mR bC ah;replace aT:=mX aT ah;clear ah;clear cv bJ cP)|((refine dO rfl rfl rfl rfl rfl aT.out eI.out rfl (by simp [Value.oneCell']) ?_);intro w6 hs_ ag;replace cM:=oX ag cM aT (by decide);replace cE:=oX ag cE aT (by decide);replace bQ:=oR ag bQ aT (by decide);replace bC:=oR ag bC aT (by decide);replace bI:=oX ag bI aT (by decide);replace HB:=oB ag HB lE;clear ag;replace aT:=aa.mk hs_;clear hs_)|((refine dO rfl rfl rfl rfl rfl bI.out iT.out rfl (by simp [Value.oneCell']) ?_);intro w7 hs_ ag;replace cM:=oX ag cM bI (by decide);replace cE:=oX ag cE bI (by decide);replace bQ:=oR ag bQ bI (by decide);replace bC:=oR ag bC bI (by decide);replace aT:=oX ag aT bI (by decide);replace HB:=oB ag HB nJ;clear ag;replace bI:=aa.mk hs_;clear hs_))
 have H:=HF.out;clear HF;unfold xx at H
 dsimp only at H
 by_cases ce:e_=0
 ·have Bl:(e_==0)=true:=fH ce
  have Je:(e_ !=0)=false:=by rw [bne,Bl];rfl
  rw [au ce] at H
  clear ce;have HG:=aa.mk H;clear H
  (try dsimp only)
  go_upto_region 4 with (fail)
  refine dg (n:=8) (S:=fun w'=>w'.cell? ⟨gs,0,none⟩=some (.int .u32 si) /\ w'.cell? ⟨gd,0,none⟩=some (.int .u32 di)) (ds:=[]) #[false,false,false,false,false,false,false,false] (by kernel_rfl) rfl rfl ⟨((aE cM.out 0).trans rfl),((aE cE.out 0).trans rfl)⟩ (fun hHeld=> ?_);refine bH Fy.R4.tab Fy.R4.bits (fun az dW=> ?_);have ah:=bf (Below.refl w7.heap.size w7);replace HB:=mB HB ah;replace cM:=mX cM ah;replace cE:=mX cE ah;replace bQ:=mR bQ ah;replace bC:=mR bC ah;replace aT:=mX aT ah;replace bI:=mX bI ah;clear ah;generalize w7.drew=w8 at HB cM cE bQ bC aT bI hHeld|-
  refine pz 0 28 az ?_;refine pz 2 30 az ?_;refine tz 1 29 az dW hHeld ?_;refine pz 4 32 az ?_;refine tz 3 31 az dW hHeld ?_;refine oz 5 (none) az (fun K hK=> ?_);refine fK (i:=6) (v:= .int .u32 si) (cs':= #[.int .u8 a,.int .u8 t,.int .u8 pr,.int .u16 i,.int .u8 fl,.int .u16 dM,.int .u32 si,.int .u32 d,.slice Ao o.length co,.slice Ab b.length cb]) (by rfl) (by rfl) aT.out rfl (by (have m_:=(aE aT.out 6).trans (rfl:_=some (.int .u32 s:Value)));(have nY:=ae aT.out 6);first|(go_simp;done)|(go_simp;rfl)) ?_;intro w9 hs_ ag;replace cM:=oX ag cM aT (by decide);replace cE:=oX ag cE aT (by decide);replace bQ:=oR ag bQ aT (by decide);replace bC:=oR ag bC aT (by decide);replace bI:=oX ag bI aT (by decide);replace HB:=oB ag HB lE;clear ag;replace aT:=aa.mk hs_
  clear hs_;refine hK.out _ _ ⟨((aE cM.out 0).trans rfl),((aE cE.out 0).trans rfl)⟩ (fun hHeld=> ?_);clear hK K;refine pz 6 33 az ?_;refine oz 7 (none) az (fun K hK=> ?_);refine fK (i:=7) (v:= .int .u32 di) (cs':= #[.int .u8 a,.int .u8 t,.int .u8 pr,.int .u16 i,.int .u8 fl,.int .u16 dM,.int .u32 si,.int .u32 di,.slice Ao o.length co,.slice Ab b.length cb]) (by rfl) (by rfl) aT.out rfl (by (have m_:=(aE aT.out 7).trans (rfl:_=some (.int .u32 d:Value)));(have nY:=ae aT.out 7);first|(go_simp;done)|(go_simp;rfl)) ?_;intro j4 hs_ ag;replace cM:=oX ag cM aT (by decide);replace cE:=oX ag cE aT (by decide);replace bQ:=oR ag bQ aT (by decide);replace bC:=oR ag bC aT (by decide);replace bI:=oX ag bI aT (by decide);replace HB:=oB ag HB lE;clear ag
  replace aT:=aa.mk hs_;clear hs_;refine hK.out _ _ ⟨((aE cM.out 0).trans rfl),((aE cE.out 0).trans rfl)⟩ (fun hHeld=> ?_);clear hK K;refine dz az ?_;clear az dW hHeld;have H:=HG.out;clear HG
  by_cases q17:pr=17
  ·have AhI:(pr==17)=true:=fH q17
   have Aou:(pr !=17)=false:=by rw [bne,AhI];rfl
   rw [au q17] at H
   clear q17;unfold S8 at H
   dsimp only at H
   obtain ⟨⟨us,ud,uc,ub,ue⟩,hp,H⟩:=bV H
   try dsimp only at H
   have HU:=aa.mk hp;clear hp;have HG:=aa.mk H;clear H;have nl:=cz aT.out 2 rfl;have ux:=cz aT.out 9 rfl
   go_wp2_with fail
   clear nl ux;refine (lY.calls Ab cb b us ud uc ub ue _ (Kd.av bC.out).2.2 (Kd.av bC.out).2.1 HU.out).mono ?_;rintro ev qf ⟨v_,rfl,ho,hb⟩;have dS:=aa.mk (Kd.bP ho (af HB.out));obtain ⟨De,Df,rfl,_,_⟩:=Kd.bW ho;clear ho;have ah:=hb;replace HB:=mB HB ah;replace cM:=mX cM ah;replace cE:=mX cE ah;replace bQ:=mR bQ ah;replace bC:=mR bC ah;replace aT:=mX aT ah;replace bI:=mX bI ah;clear ah;clear hb HU
   (try dsimp only)
   go_upto_region 17 with (((refine eu rfl rfl rfl rfl rfl qB.out rfl (by simp [Value.oneCell']) ?_);intro fB gH cO))
   revert fB gH cO;intro l5 gH cO;have bR:aa (l5.heap[qf.heap.size]?=some (.cells #[.int .u16 us,.int .u16 ud,.int .u16 uc,.slice De ub.length Df] 83 (0,0))):=⟨gH⟩
   have lR:=wN HB;have ah:=cO;replace HB:=mB HB ah;replace cM:=mX cM ah;replace cE:=mX cE ah;replace bQ:=mR bQ ah;replace bC:=mR bC ah;replace aT:=mX aT ah;replace bI:=mX bI ah;replace dS:=mR dS ah;clear ah;clear gH cO;generalize qf.heap.size=gu at bR lR|-
   (try dsimp only)
   go_upto_region 17 with (fail)
   refine dg (n:=8) (S:=fun w'=>w'.cell? ⟨gs,1,none⟩=some (.int .u16 sp) /\ w'.cell? ⟨gd,1,none⟩=some (.int .u16 dp)) (ds:=[]) #[false,false,false,false,false,false,false,false] (by kernel_rfl) rfl rfl ⟨((aE cM.out 1).trans rfl),((aE cE.out 1).trans rfl)⟩ (fun hHeld=> ?_);refine bH Fy.R17.tab Fy.R17.bits (fun az dW=> ?_);have ah:=bf (Below.refl l5.heap.size l5);replace HB:=mB HB ah;replace cM:=mX cM ah;replace cE:=mX cE ah;replace bQ:=mR bQ ah;replace bC:=mR bC ah;replace aT:=mX aT ah;replace bI:=mX bI ah;replace dS:=mR dS ah;replace bR:=mX bR ah;clear ah;generalize l5.drew=sR at HB cM cE bQ bC aT bI dS bR hHeld|-
   refine pz 0 85 az ?_;refine pz 2 87 az ?_;refine tz 1 86 az dW hHeld ?_;refine pz 4 89 az ?_;refine tz 3 88 az dW hHeld ?_;refine oz 5 (none) az (fun K hK=> ?_);refine fK (i:=0) (v:= .int .u16 sp) (cs':= #[.int .u16 sp,.int .u16 ud,.int .u16 uc,.slice De ub.length Df]) (by rfl) (by rfl) bR.out rfl (by (have m_:=(aE bR.out 0).trans (rfl:_=some (.int .u16 us:Value)));(have nY:=ae bR.out 0);first|(go_simp;done)|(go_simp;rfl)) ?_;intro qN hs_ ag;replace cM:=oX ag cM bR (by decide);replace cE:=oX ag cE bR (by decide);replace bQ:=oR ag bQ bR (by decide);replace bC:=oR ag bC bR (by decide);replace aT:=oX ag aT bR (by decide);replace bI:=oX ag bI bR (by decide);replace dS:=oR ag dS bR (by decide);replace HB:=oB ag HB lR;clear ag
   replace bR:=aa.mk hs_;clear hs_;refine hK.out _ _ ⟨((aE cM.out 1).trans rfl),((aE cE.out 1).trans rfl)⟩ (fun hHeld=> ?_);clear hK K;refine pz 6 90 az ?_;refine oz 7 (none) az (fun K hK=> ?_);refine fK (i:=1) (v:= .int .u16 dp) (cs':= #[.int .u16 sp,.int .u16 dp,.int .u16 uc,.slice De ub.length Df]) (by rfl) (by rfl) bR.out rfl (by (have m_:=(aE bR.out 1).trans (rfl:_=some (.int .u16 ud:Value)));(have nY:=ae bR.out 1);first|(go_simp;done)|(go_simp;rfl)) ?_;intro yE hs_ ag;replace cM:=oX ag cM bR (by decide);replace cE:=oX ag cE bR (by decide);replace bQ:=oR ag bQ bR (by decide);replace bC:=oR ag bC bR (by decide);replace aT:=oX ag aT bR (by decide);replace bI:=oX ag bI bR (by decide);replace dS:=oR ag dS bR (by decide)
   replace HB:=oB ag HB lR;clear ag;replace bR:=aa.mk hs_;clear hs_;refine hK.out _ _ ⟨((aE cM.out 1).trans rfl),((aE cE.out 1).trans rfl)⟩ (fun hHeld=> ?_);clear hK K;refine dz az ?_;clear az dW hHeld;have H:=HG.out;clear HG;have UA:=cz bR.out 2 rfl
   by_cases cu:uc=0
   ·have cu1:(uc==0)=true:=fH cu
    have cu2:(uc !=0)=false:=by rw [bne,cu1];rfl
    rw [au cu] at H
    clear cu;have HG:=aa.mk H;clear H
    (try dsimp only)
    go_upto_region 20 with (fail)
    clear UA;have H:=HG.out;clear HG;obtain ⟨⟨y,ye⟩,hp,H⟩:=bV H
    try dsimp only at H
    have HY:=aa.mk hp;clear hp;have HG:=aa.mk H;clear H
    go_wp2_with (refine Kd.bL rfl (br rfl rfl bR.out Try.underlying83 rfl qB.out) ?_)
    refine (bT.calls sp dp uc De Df ub y ye _ (Kd.av dS.out).2.2 (Kd.av dS.out).2.1 HY.out).mono ?_;rintro ev qM ⟨v_,rfl,ho,hb⟩;have qg:=aa.mk (Kd.bP ho (af HB.out));obtain ⟨Ay,cy,rfl,_,_⟩:=Kd.bW ho;clear ho;have ah:=hb;replace HB:=mB HB ah;replace cM:=mX cM ah;replace cE:=mX cE ah;replace bQ:=mR bQ ah;replace bC:=mR bC ah;replace aT:=mX aT ah;replace bI:=mX bI ah;replace dS:=mR dS ah;replace bR:=mX bR ah;clear ah;clear hb
    (try dsimp only)
    go_upto_region 26 with (((refine gQ rfl rfl (i:=9) (v:= .slice Ay y.length cy) (cs':= #[.int .u8 a,.int .u8 t,.int .u8 pr,.int .u16 i,.int .u8 fl,.int .u16 dM,.int .u32 si,.int .u32 di,.slice Ao o.length co,.slice Ay y.length cy]) aT.out rfl ?fq ?_);(case fq=>(have m_:=(aE aT.out 9).trans (rfl:_=some (.slice Ab b.length cb:Value)));(have nY:=ae aT.out 9);first|(go_simp;done)|(go_simp;rfl));intro Bm hs_ ag;replace cM:=oX ag cM aT (by decide);replace cE:=oX ag cE aT (by decide);replace bQ:=oR ag bQ aT (by decide);replace bC:=oR ag bC aT (by decide);replace bI:=oX ag bI aT (by decide);replace dS:=oR ag dS aT (by decide);replace bR:=oX ag bR aT (by decide);replace qg:=oR ag qg aT (by decide);replace HB:=oB ag HB lE;clear ag;replace aT:=aa.mk hs_;clear hs_))
    have H:=HG.out;clear HG;unfold xw at H
    obtain ⟨⟨z,ze⟩,hp,H⟩:=bV H
    try dsimp only at H
    have HZ:=aa.mk hp;clear hp;obtain ⟨rfl,rfl⟩:=Prod.mk.inj (cS H);clear H
    go_wp2_with (refine Kd.bL rfl (br rfl rfl aT.out Try.underlying73 rfl eI.out) ?_)
    refine (aI.calls k a t pr i fl dM si di Ao co o Ay cy y z ze _ (Kd.av bQ.out).2.2 (Kd.av bQ.out).2.1 (Kd.av qg.out).2.2 (Kd.av qg.out).2.1 HZ.out).mono ?_;rintro ev Mr ⟨v_,rfl,ho,hb⟩;have Gr:=aa.mk (Kd.bP ho (af HB.out));obtain ⟨Az,cz,rfl,_,_⟩:=Kd.bW ho;clear ho;have ah:=hb;replace HB:=mB HB ah;replace cM:=mX cM ah;replace cE:=mX cE ah;replace bQ:=mR bQ ah;replace bC:=mR bC ah;replace aT:=mX aT ah;replace bI:=mX bI ah;replace dS:=mR dS ah;replace bR:=mX bR ah;replace qg:=mR qg ah;clear ah;clear hb
    (try dsimp only)
    go_wp2
    (try simp only [Exit.inBlock,Exit.then])
    go_ret2
    exact ⟨_,rfl,Gr.out,HB.out⟩
   ·have cu1:(uc==0)=false:=fc cu
    have cu2:(uc !=0)=true:=bne_iff_ne.2 cu;rw [ax cu] at H
    clear cu;obtain ⟨cc,hp,H⟩:=bV H
    try dsimp only at H
    have HS:=aa.mk hp;clear hp;have HG:=aa.mk H;clear H;have su:=cz aT.out 6 rfl;have sM:=cz aT.out 7 rfl
    (try dsimp only)
    go_wp2_with (refine Kd.bL rfl (br rfl rfl bR.out Try.underlying83 rfl qB.out) ?_)
    clear su sM UA;refine (jn.calls k si di sp dp uc De Df ub cc _ (Kd.av dS.out).2.2 (Kd.av dS.out).2.1 HS.out).mono ?_;rintro ev qM ⟨rfl,hb⟩;have ah:=hb;replace HB:=mB HB ah;replace cM:=mX cM ah;replace cE:=mX cE ah;replace bQ:=mR bQ ah;replace bC:=mR bC ah;replace aT:=mX aT ah;replace bI:=mX bI ah;replace dS:=mR dS ah;replace bR:=mX bR ah;clear ah;clear hb
    (try dsimp only)
    go_upto_region 20 with (((refine gQ rfl rfl (i:=2) (v:= .int .u16 cc) (cs':= #[.int .u16 sp,.int .u16 dp,.int .u16 cc,.slice De ub.length Df]) bR.out rfl ?fq ?_);(case fq=>(have m_:=(aE bR.out 2).trans (rfl:_=some (.int .u16 uc:Value)));(have nY:=ae bR.out 2);first|(go_simp;done)|(go_simp;rfl));intro Bm hs_ ag;replace cM:=oX ag cM bR (by decide);replace cE:=oX ag cE bR (by decide);replace bQ:=oR ag bQ bR (by decide);replace bC:=oR ag bC bR (by decide);replace aT:=oX ag aT bR (by decide);replace bI:=oX ag bI bR (by decide);replace dS:=oR ag dS bR (by decide);replace HB:=oB ag HB lR;clear ag;replace bR:=aa.mk hs_;clear hs_))
    have H:=HG.out;clear HG;obtain ⟨⟨y,ye⟩,hp,H⟩:=bV H
    try dsimp only at H
    have HY:=aa.mk hp;clear hp;have HG:=aa.mk H;clear H
    go_wp2_with (refine Kd.bL rfl (br rfl rfl bR.out Try.underlying83 rfl qB.out) ?_)
    refine (bT.calls sp dp cc De Df ub y ye _ (Kd.av dS.out).2.2 (Kd.av dS.out).2.1 HY.out).mono ?_;rintro ev Mr ⟨v_,rfl,ho,hb⟩;have qg:=aa.mk (Kd.bP ho (af HB.out));obtain ⟨Ay,cy,rfl,_,_⟩:=Kd.bW ho;clear ho;have ah:=hb;replace HB:=mB HB ah;replace cM:=mX cM ah;replace cE:=mX cE ah;replace bQ:=mR bQ ah;replace bC:=mR bC ah;replace aT:=mX aT ah;replace bI:=mX bI ah;replace dS:=mR dS ah;replace bR:=mX bR ah;clear ah;clear hb
    (try dsimp only)
    go_upto_region 26 with (((refine gQ rfl rfl (i:=9) (v:= .slice Ay y.length cy) (cs':= #[.int .u8 a,.int .u8 t,.int .u8 pr,.int .u16 i,.int .u8 fl,.int .u16 dM,.int .u32 si,.int .u32 di,.slice Ao o.length co,.slice Ay y.length cy]) aT.out rfl ?fq ?_);(case fq=>(have m_:=(aE aT.out 9).trans (rfl:_=some (.slice Ab b.length cb:Value)));(have nY:=ae aT.out 9);first|(go_simp;done)|(go_simp;rfl));intro w19 hs_ ag;replace cM:=oX ag cM aT (by decide);replace cE:=oX ag cE aT (by decide);replace bQ:=oR ag bQ aT (by decide);replace bC:=oR ag bC aT (by decide);replace bI:=oX ag bI aT (by decide);replace dS:=oR ag dS aT (by decide);replace bR:=oX ag bR aT (by decide);replace qg:=oR ag qg aT (by decide);replace HB:=oB ag HB lE;clear ag;replace aT:=aa.mk hs_;clear hs_))
    have H:=HG.out;clear HG;unfold xw at H
    obtain ⟨⟨z,ze⟩,hp,H⟩:=bV H
    try dsimp only at H
    have HZ:=aa.mk hp;clear hp;obtain ⟨rfl,rfl⟩:=Prod.mk.inj (cS H);clear H
    go_wp2_with (refine Kd.bL rfl (br rfl rfl aT.out Try.underlying73 rfl eI.out) ?_)
    refine (aI.calls k a t pr i fl dM si di Ao co o Ay cy y z ze _ (Kd.av bQ.out).2.2 (Kd.av bQ.out).2.1 (Kd.av qg.out).2.2 (Kd.av qg.out).2.1 HZ.out).mono ?_;rintro ev UW ⟨v_,rfl,ho,hb⟩;have Gr:=aa.mk (Kd.bP ho (af HB.out));obtain ⟨Az,cz,rfl,_,_⟩:=Kd.bW ho;clear ho;have ah:=hb;replace HB:=mB HB ah;replace cM:=mX cM ah;replace cE:=mX cE ah;replace bQ:=mR bQ ah;replace bC:=mR bC ah;replace aT:=mX aT ah;replace bI:=mX bI ah;replace dS:=mR dS ah;replace bR:=mX bR ah;replace qg:=mR qg ah;clear ah;clear hb
    (try dsimp only)
    go_wp2
    (try simp only [Exit.inBlock,Exit.then])
    go_ret2
    exact ⟨_,rfl,Gr.out,HB.out⟩
  ·have AhI:(pr==17)=false:=fc q17
   have Aou:(pr !=17)=true:=bne_iff_ne.2 q17;rw [ax q17] at H
   clear q17
   by_cases q6:pr=6
   ·have q61:(pr==6)=true:=fH q6
    have q62:(pr !=6)=false:=by rw [bne,q61];rfl
    rw [au q6] at H
    clear q6;unfold S9 at H
    dsimp only at H
    obtain ⟨⟨ts,td,tq,ta,tf,tw,tc,tu,nf,tb,te⟩,hp,H⟩:=bV H
    try dsimp only at H
    have HU:=aa.mk hp;clear hp;obtain ⟨cc,hp,H⟩:=bV H
    try dsimp only at H
    have HS:=aa.mk hp;clear hp;have HG:=aa.mk H;clear H;have nl:=cz aT.out 2 rfl;have ux:=cz aT.out 9 rfl
    go_wp2_with fail
    clear nl ux;refine (fZ.calls Ab cb b ts td tq ta tf tw tc tu nf tb te _ (Kd.av bC.out).2.2 (Kd.av bC.out).2.1 HU.out).mono ?_;rintro ev qf ⟨vo,vb,rfl,ho,qn,hb⟩;have cF:=lD ho HB;obtain ⟨uj,uk,rfl,_,_⟩:=Kd.bW ho;clear ho;have ep:=lD qn HB;obtain ⟨Er,Es,rfl,_,_⟩:=Kd.bW qn;clear qn;have ah:=hb;replace HB:=mB HB ah;replace cM:=mX cM ah;replace cE:=mX cE ah;replace bQ:=mR bQ ah;replace bC:=mR bC ah;replace aT:=mX aT ah;replace bI:=mX bI ah;clear ah;clear hb HU
    (try dsimp only)
    go_upto_region 23 with (((refine eu rfl rfl rfl rfl rfl jT.out rfl (by simp [Value.oneCell']) ?_);intro fB gH cO))
    revert fB gH cO;intro l5 gH cO;have bR:aa (l5.heap[qf.heap.size]?=some (.cells #[.int .u16 ts,.int .u16 td,.int .u32 tq,.int .u32 ta,.int .u8 tf,.int .u16 tw,.int .u16 tc,.int .u16 tu,.slice uj nf.length uk,.slice Er tb.length Es] 137 (0,0))):=⟨gH⟩
    have lR:=wN HB;have ah:=cO;replace HB:=mB HB ah;replace cM:=mX cM ah;replace cE:=mX cE ah;replace bQ:=mR bQ ah;replace bC:=mR bC ah;replace aT:=mX aT ah;replace bI:=mX bI ah;replace cF:=mR cF ah;replace ep:=mR ep ah;clear ah;clear gH cO;generalize qf.heap.size=gu at bR lR|-
    (try dsimp only)
    go_upto_region 23 with (fail)
    refine dg (n:=8) (S:=fun w'=>w'.cell? ⟨gs,1,none⟩=some (.int .u16 sp) /\ w'.cell? ⟨gd,1,none⟩=some (.int .u16 dp)) (ds:=[]) #[false,false,false,false,false,false,false,false] (by kernel_rfl) rfl rfl ⟨((aE cM.out 1).trans rfl),((aE cE.out 1).trans rfl)⟩ (fun hHeld=> ?_);refine bH Fy.R23.tab Fy.R23.bits (fun az dW=> ?_);have ah:=bf (Below.refl l5.heap.size l5);replace HB:=mB HB ah;replace cM:=mX cM ah;replace cE:=mX cE ah;replace bQ:=mR bQ ah;replace bC:=mR bC ah;replace aT:=mX aT ah;replace bI:=mX bI ah;replace cF:=mR cF ah;replace ep:=mR ep ah;replace bR:=mX bR ah;clear ah;generalize l5.drew=sR at HB cM cE bQ bC aT bI cF ep bR hHeld|-
    refine pz 0 115 az ?_;refine pz 2 117 az ?_;refine tz 1 116 az dW hHeld ?_;refine pz 4 119 az ?_;refine tz 3 118 az dW hHeld ?_;refine oz 5 (none) az (fun K hK=> ?_);refine fK (i:=0) (v:= .int .u16 sp) (cs':= #[.int .u16 sp,.int .u16 td,.int .u32 tq,.int .u32 ta,.int .u8 tf,.int .u16 tw,.int .u16 tc,.int .u16 tu,.slice uj nf.length uk,.slice Er tb.length Es]) (by rfl) (by rfl) bR.out rfl (by (have m_:=(aE bR.out 0).trans (rfl:_=some (.int .u16 ts:Value)));(have nY:=ae bR.out 0);first|(go_simp;done)|(go_simp;rfl)) ?_;intro qN hs_ ag;replace cM:=oX ag cM bR (by decide);replace cE:=oX ag cE bR (by decide);replace bQ:=oR ag bQ bR (by decide);replace bC:=oR ag bC bR (by decide);replace aT:=oX ag aT bR (by decide);replace bI:=oX ag bI bR (by decide)
    replace cF:=oR ag cF bR (by decide);replace ep:=oR ag ep bR (by decide);replace HB:=oB ag HB lR;clear ag;replace bR:=aa.mk hs_;clear hs_;refine hK.out _ _ ⟨((aE cM.out 1).trans rfl),((aE cE.out 1).trans rfl)⟩ (fun hHeld=> ?_);clear hK K;refine pz 6 120 az ?_;refine oz 7 (none) az (fun K hK=> ?_);refine fK (i:=1) (v:= .int .u16 dp) (cs':= #[.int .u16 sp,.int .u16 dp,.int .u32 tq,.int .u32 ta,.int .u8 tf,.int .u16 tw,.int .u16 tc,.int .u16 tu,.slice uj nf.length uk,.slice Er tb.length Es]) (by rfl) (by rfl) bR.out rfl (by (have m_:=(aE bR.out 1).trans (rfl:_=some (.int .u16 td:Value)));(have nY:=ae bR.out 1);first|(go_simp;done)|(go_simp;rfl)) ?_;intro yE hs_ ag;replace cM:=oX ag cM bR (by decide);replace cE:=oX ag cE bR (by decide)
    replace bQ:=oR ag bQ bR (by decide);replace bC:=oR ag bC bR (by decide);replace aT:=oX ag aT bR (by decide);replace bI:=oX ag bI bR (by decide);replace cF:=oR ag cF bR (by decide);replace ep:=oR ag ep bR (by decide);replace HB:=oB ag HB lR;clear ag;replace bR:=aa.mk hs_;clear hs_;refine hK.out _ _ ⟨((aE cM.out 1).trans rfl),((aE cE.out 1).trans rfl)⟩ (fun hHeld=> ?_);clear hK K;refine dz az ?_;clear az dW hHeld;have su:=cz aT.out 6 rfl;have sM:=cz aT.out 7 rfl
    (try dsimp only)
    go_wp2_with (refine Kd.bL rfl (br rfl rfl bR.out Try.underlying137 rfl jT.out) ?_)
    clear su sM;refine (gT.calls k si di sp dp tq ta tf tw tc tu uj uk nf Er Es tb cc _ (Kd.av cF.out).2.2 (Kd.av cF.out).2.1 (Kd.av ep.out).2.2 (Kd.av ep.out).2.1 HS.out).mono ?_;rintro ev qM ⟨rfl,hb⟩;have ah:=hb;replace HB:=mB HB ah;replace cM:=mX cM ah;replace cE:=mX cE ah;replace bQ:=mR bQ ah;replace bC:=mR bC ah;replace aT:=mX aT ah;replace bI:=mX bI ah;replace cF:=mR cF ah;replace ep:=mR ep ah;replace bR:=mX bR ah;clear ah;clear hb
    (try dsimp only)
    go_upto_region 25 with (((refine gQ rfl rfl (i:=6) (v:= .int .u16 cc) (cs':= #[.int .u16 sp,.int .u16 dp,.int .u32 tq,.int .u32 ta,.int .u8 tf,.int .u16 tw,.int .u16 cc,.int .u16 tu,.slice uj nf.length uk,.slice Er tb.length Es]) bR.out rfl ?fq ?_);(case fq=>(have m_:=(aE bR.out 6).trans (rfl:_=some (.int .u16 tc:Value)));(have nY:=ae bR.out 6);first|(go_simp;done)|(go_simp;rfl));intro Bm hs_ ag;replace cM:=oX ag cM bR (by decide);replace cE:=oX ag cE bR (by decide);replace bQ:=oR ag bQ bR (by decide);replace bC:=oR ag bC bR (by decide);replace aT:=oX ag aT bR (by decide);replace bI:=oX ag bI bR (by decide);replace cF:=oR ag cF bR (by decide);replace ep:=oR ag ep bR (by decide);replace HB:=oB ag HB lR;clear ag;replace bR:=aa.mk hs_;clear hs_))
    have H:=HG.out;clear HG;obtain ⟨⟨y,ye⟩,hp,H⟩:=bV H
    try dsimp only at H
    have HY:=aa.mk hp;clear hp;have HG:=aa.mk H;clear H
    go_wp2_with (refine Kd.bL rfl (br rfl rfl bR.out Try.underlying137 rfl jT.out) ?_)
    refine (aD.calls k sp dp tq ta tf tw cc tu uj uk nf Er Es tb y ye _ (Kd.av cF.out).2.2 (Kd.av cF.out).2.1 (Kd.av ep.out).2.2 (Kd.av ep.out).2.1 HY.out).mono ?_;rintro ev Mr ⟨v_,rfl,ho,hb⟩;have qg:=aa.mk (Kd.bP ho (af HB.out));obtain ⟨Ay,cy,rfl,_,_⟩:=Kd.bW ho;clear ho;have ah:=hb;replace HB:=mB HB ah;replace cM:=mX cM ah;replace cE:=mX cE ah;replace bQ:=mR bQ ah;replace bC:=mR bC ah;replace aT:=mX aT ah;replace bI:=mX bI ah;replace cF:=mR cF ah;replace ep:=mR ep ah;replace bR:=mX bR ah;clear ah;clear hb
    (try dsimp only)
    go_upto_region 26 with (((refine gQ rfl rfl (i:=9) (v:= .slice Ay y.length cy) (cs':= #[.int .u8 a,.int .u8 t,.int .u8 pr,.int .u16 i,.int .u8 fl,.int .u16 dM,.int .u32 si,.int .u32 di,.slice Ao o.length co,.slice Ay y.length cy]) aT.out rfl ?fq ?_);(case fq=>(have m_:=(aE aT.out 9).trans (rfl:_=some (.slice Ab b.length cb:Value)));(have nY:=ae aT.out 9);first|(go_simp;done)|(go_simp;rfl));intro w19 hs_ ag;replace cM:=oX ag cM aT (by decide);replace cE:=oX ag cE aT (by decide);replace bQ:=oR ag bQ aT (by decide);replace bC:=oR ag bC aT (by decide);replace bI:=oX ag bI aT (by decide);replace cF:=oR ag cF aT (by decide);replace ep:=oR ag ep aT (by decide);replace bR:=oX ag bR aT (by decide);replace qg:=oR ag qg aT (by decide);replace HB:=oB ag HB lE;clear ag;replace aT:=aa.mk hs_;clear hs_))
    have H:=HG.out;clear HG;unfold xw at H
    obtain ⟨⟨z,ze⟩,hp,H⟩:=bV H
    try dsimp only at H
    have HZ:=aa.mk hp;clear hp;obtain ⟨rfl,rfl⟩:=Prod.mk.inj (cS H);clear H
    go_wp2_with (refine Kd.bL rfl (br rfl rfl aT.out Try.underlying73 rfl eI.out) ?_)
    refine (aI.calls k a t pr i fl dM si di Ao co o Ay cy y z ze _ (Kd.av bQ.out).2.2 (Kd.av bQ.out).2.1 (Kd.av qg.out).2.2 (Kd.av qg.out).2.1 HZ.out).mono ?_;rintro ev UW ⟨v_,rfl,ho,hb⟩;have Gr:=aa.mk (Kd.bP ho (af HB.out));obtain ⟨Az,cz,rfl,_,_⟩:=Kd.bW ho;clear ho;have ah:=hb;replace HB:=mB HB ah;replace cM:=mX cM ah;replace cE:=mX cE ah;replace bQ:=mR bQ ah;replace bC:=mR bC ah;replace aT:=mX aT ah;replace bI:=mX bI ah;replace cF:=mR cF ah;replace ep:=mR ep ah;replace bR:=mX bR ah;replace qg:=mR qg ah;clear ah;clear hb
    (try dsimp only)
    go_wp2
    (try simp only [Exit.inBlock,Exit.then])
    go_ret2
    exact ⟨_,rfl,Gr.out,HB.out⟩
   ·have q61:(pr==6)=false:=fc q6
    have q62:(pr !=6)=true:=bne_iff_ne.2 q6;rw [ax q6] at H
    clear q6;unfold L7 at H
    dsimp only at H
    obtain ⟨⟨mt,mc,ms,mr,mb,me⟩,hp,H⟩:=bV H
    try dsimp only at H
    have HU:=aa.mk hp;clear hp;have HG:=aa.mk H;clear H;have nl:=cz aT.out 2 rfl;have ux:=cz aT.out 9 rfl
    go_wp2_with fail
    clear nl ux;refine (eS.calls Ab cb b mt mc ms mr mb me _ (Kd.av bC.out).2.2 (Kd.av bC.out).2.1 HU.out).mono ?_;rintro ev qf ⟨v_,rfl,ho,hb⟩;have bY:=aa.mk (Kd.bP ho (af HB.out));obtain ⟨yx,yy,rfl,_,_⟩:=Kd.bW ho;clear ho;have ah:=hb;replace HB:=mB HB ah;replace cM:=mX cM ah;replace cE:=mX cE ah;replace bQ:=mR bQ ah;replace bC:=mR bC ah;replace aT:=mX aT ah;replace bI:=mX bI ah;clear ah;clear hb HU
    (try dsimp only)
    go_upto_region 7 with (((refine eu rfl rfl rfl rfl rfl ja.out rfl (by simp [Value.oneCell']) ?_);intro fB gH cO))
    revert fB gH cO;intro l5 gH cO;have bR:aa (l5.heap[qf.heap.size]?=some (.cells #[.int .u8 mt,.int .u8 mc,.int .u16 ms,.int .u32 mr,.slice yx mb.length yy] 101 (0,0))):=⟨gH⟩
    have lR:=wN HB;have ah:=cO;replace HB:=mB HB ah;replace cM:=mX cM ah;replace cE:=mX cE ah;replace bQ:=mR bQ ah;replace bC:=mR bC ah;replace aT:=mX aT ah;replace bI:=mX bI ah;replace bY:=mR bY ah;clear ah;clear gH cO;generalize qf.heap.size=gu at bR lR|-
    have H:=HG.out;clear HG;have UR:=cz bI.out 6 rfl;have Ep:=cz cM.out 1 rfl;have US:=cz cE.out 1 rfl
    by_cases ci_:0<wz.length
    ·rw [au ci_] at H
     have d1:decide (0<(wz.length:Int))=true:=bS (by omega);have d2:decide (0<wz.length)=true:=bS (by omega);clear ci_
     by_cases sz:sp=0
     ·have sz1:(sp==0)=true:=fH sz
      have sz2:(sp !=0)=false:=by rw [bne,sz1];rfl
      rw [au sz] at H
      clear sz
      by_cases dz:dp=0
      ·have dz1:(dp==0)=true:=fH dz
       have dz2:(dp !=0)=false:=by rw [bne,dz1];rfl
       rw [au dz] at H
       clear dz
       (try dsimp only)
       have HG:=aa.mk H;clear H
       go_upto_region 13 with (fail)
       clear d1 d2 sz1 sz2 dz1 dz2;clear UR Ep US;have H:=HG.out;clear HG;unfold Fx at H
       obtain ⟨cc,hp,H⟩:=bV H
       try dsimp only at H
       have HS:=aa.mk hp;clear hp;have HG:=aa.mk H;clear H
       go_wp2_with (refine Kd.bL rfl (br rfl rfl bR.out Try.underlying101 rfl ja.out) ?_)
       refine (eW.calls k mt mc ms mr yx yy mb cc _ (Kd.av bY.out).2.2 (Kd.av bY.out).2.1 HS.out).mono ?_;rintro ev sR ⟨rfl,hb⟩;have ah:=hb;replace HB:=mB HB ah;replace cM:=mX cM ah;replace cE:=mX cE ah;replace bQ:=mR bQ ah;replace bC:=mR bC ah;replace aT:=mX aT ah;replace bI:=mX bI ah;replace bY:=mR bY ah;replace bR:=mX bR ah;clear ah;clear hb
       (try dsimp only)
       go_upto_region 14 with (((refine gQ rfl rfl (i:=2) (v:= .int .u16 cc) (cs':= #[.int .u8 mt,.int .u8 mc,.int .u16 cc,.int .u32 mr,.slice yx mb.length yy]) bR.out rfl ?fq ?_);(case fq=>(have m_:=(aE bR.out 2).trans (rfl:_=some (.int .u16 ms:Value)));(have nY:=ae bR.out 2);first|(go_simp;done)|(go_simp;rfl));intro qN hs_ ag;replace cM:=oX ag cM bR (by decide);replace cE:=oX ag cE bR (by decide);replace bQ:=oR ag bQ bR (by decide);replace bC:=oR ag bC bR (by decide);replace aT:=oX ag aT bR (by decide);replace bI:=oX ag bI bR (by decide);replace bY:=oR ag bY bR (by decide);replace HB:=oB ag HB lR;clear ag;replace bR:=aa.mk hs_;clear hs_))
       have H:=HG.out;clear HG;obtain ⟨⟨y,ye⟩,hp,H⟩:=bV H
       try dsimp only at H
       have HY:=aa.mk hp;clear hp;have HG:=aa.mk H;clear H
       go_wp2_with (refine Kd.bL rfl (br rfl rfl bR.out Try.underlying101 rfl ja.out) ?_)
       refine (bG.calls mt mc cc mr yx yy mb y ye _ (Kd.av bY.out).2.2 (Kd.av bY.out).2.1 HY.out).mono ?_;rintro ev yE ⟨v_,rfl,ho,hb⟩;have qg:=aa.mk (Kd.bP ho (af HB.out));obtain ⟨Ay,cy,rfl,_,_⟩:=Kd.bW ho;clear ho;have ah:=hb;replace HB:=mB HB ah;replace cM:=mX cM ah;replace cE:=mX cE ah;replace bQ:=mR bQ ah;replace bC:=mR bC ah;replace aT:=mX aT ah;replace bI:=mX bI ah;replace bY:=mR bY ah;replace bR:=mX bR ah;clear ah;clear hb
       (try dsimp only)
       go_upto_region 26 with (((refine gQ rfl rfl (i:=9) (v:= .slice Ay y.length cy) (cs':= #[.int .u8 a,.int .u8 t,.int .u8 pr,.int .u16 i,.int .u8 fl,.int .u16 dM,.int .u32 si,.int .u32 di,.slice Ao o.length co,.slice Ay y.length cy]) aT.out rfl ?fq ?_);(case fq=>(have m_:=(aE aT.out 9).trans (rfl:_=some (.slice Ab b.length cb:Value)));(have nY:=ae aT.out 9);first|(go_simp;done)|(go_simp;rfl));intro qM hs_ ag;replace cM:=oX ag cM aT (by decide);replace cE:=oX ag cE aT (by decide);replace bQ:=oR ag bQ aT (by decide);replace bC:=oR ag bC aT (by decide);replace bI:=oX ag bI aT (by decide);replace bY:=oR ag bY aT (by decide);replace bR:=oX ag bR aT (by decide);replace qg:=oR ag qg aT (by decide);replace HB:=oB ag HB lE;clear ag;replace aT:=aa.mk hs_;clear hs_))
       have H:=HG.out;clear HG;unfold xw at H
       obtain ⟨⟨z,ze⟩,hp,H⟩:=bV H
       try dsimp only at H
       have HZ:=aa.mk hp;clear hp;obtain ⟨rfl,rfl⟩:=Prod.mk.inj (cS H);clear H
       go_wp2_with (refine Kd.bL rfl (br rfl rfl aT.out Try.underlying73 rfl eI.out) ?_)
       refine (aI.calls k a t pr i fl dM si di Ao co o Ay cy y z ze _ (Kd.av bQ.out).2.2 (Kd.av bQ.out).2.1 (Kd.av qg.out).2.2 (Kd.av qg.out).2.1 HZ.out).mono ?_;rintro ev Bm ⟨v_,rfl,ho,hb⟩;have Gr:=aa.mk (Kd.bP ho (af HB.out));obtain ⟨Az,cz,rfl,_,_⟩:=Kd.bW ho;clear ho;have ah:=hb;replace HB:=mB HB ah;replace cM:=mX cM ah;replace cE:=mX cE ah;replace bQ:=mR bQ ah;replace bC:=mR bC ah;replace aT:=mX aT ah;replace bI:=mX bI ah;replace bY:=mR bY ah;replace bR:=mX bR ah;replace qg:=mR qg ah;clear ah;clear hb
       (try dsimp only)
       go_wp2
       (try simp only [Exit.inBlock,Exit.then])
       go_ret2
       exact ⟨_,rfl,Gr.out,HB.out⟩
      ·have dz1:(dp==0)=false:=fc dz
       have dz2:(dp !=0)=true:=bne_iff_ne.2 dz;rw [ax dz] at H
       clear dz;obtain ⟨rfl,rfl⟩:=Prod.mk.inj (cS H);clear H
       (try dsimp only)
       go_wp2
       (try simp only [Exit.inBlock,Exit.then])
       go_ret2
       exact ⟨_,rfl,Kd.cl _ _ _ _ _,HB.out⟩
     ·have sz1:(sp==0)=false:=fc sz
      have sz2:(sp !=0)=true:=bne_iff_ne.2 sz;rw [ax sz] at H
      clear sz;obtain ⟨rfl,rfl⟩:=Prod.mk.inj (cS H);clear H
      (try dsimp only)
      go_wp2
      (try simp only [Exit.inBlock,Exit.then])
      go_ret2
      exact ⟨_,rfl,Kd.cl _ _ _ _ _,HB.out⟩
    ·rw [ax ci_] at H
     have d1:decide (0<(wz.length:Int))=false:=gO (by omega);have d2:decide (0<wz.length)=false:=gO (by omega);clear ci_
     by_cases se:sp=dp
     ·have se1:(sp==dp)=true:=fH se
      have se2:(sp !=dp)=false:=by rw [bne,se1];rfl
      rw [au se] at H
      clear se;have HG:=aa.mk H;clear H;have AaO:=cz bR.out 3 rfl
      (try dsimp only)
      go_upto_region 13 with (((refine gQ rfl rfl (i:=3) (v:= .int .u32 (Go.bits .or .u32 (sp % 4294967296*65536 % 4294967296) (Go.bits .and .u32 mr 65535))) (cs':= #[.int .u8 mt,.int .u8 mc,.int .u16 ms,.int .u32 (Go.bits .or .u32 (sp % 4294967296*65536 % 4294967296) (Go.bits .and .u32 mr 65535)),.slice yx mb.length yy]) bR.out rfl ?fq ?_);(case fq=>(have m_:=(aE bR.out 3).trans (rfl:_=some (.int .u32 mr:Value)));(have nY:=ae bR.out 3);first|(go_simp;done)|(go_simp;rfl));intro sR hs_ ag;replace cM:=oX ag cM bR (by decide);replace cE:=oX ag cE bR (by decide);replace bQ:=oR ag bQ bR (by decide);replace bC:=oR ag bC bR (by decide);replace aT:=oX ag aT bR (by decide);replace bI:=oX ag bI bR (by decide);replace bY:=oR ag bY bR (by decide);replace HB:=oB ag HB lR;clear ag;replace bR:=aa.mk hs_;clear hs_))
      clear d1 d2 se1 se2 AaO;clear UR Ep US;have H:=HG.out;clear HG;unfold Fx at H
      obtain ⟨cc,hp,H⟩:=bV H
      try dsimp only at H
      have HS:=aa.mk hp;clear hp;have HG:=aa.mk H;clear H
      go_wp2_with (refine Kd.bL rfl (br rfl rfl bR.out Try.underlying101 rfl ja.out) ?_)
      refine (eW.calls k mt mc ms (Go.bits .or .u32 (sp % 4294967296*65536 % 4294967296) (Go.bits .and .u32 mr 65535)) yx yy mb cc _ (Kd.av bY.out).2.2 (Kd.av bY.out).2.1 HS.out).mono ?_;rintro ev qN ⟨rfl,hb⟩;have ah:=hb;replace HB:=mB HB ah;replace cM:=mX cM ah;replace cE:=mX cE ah;replace bQ:=mR bQ ah;replace bC:=mR bC ah;replace aT:=mX aT ah;replace bI:=mX bI ah;replace bY:=mR bY ah;replace bR:=mX bR ah;clear ah;clear hb
      (try dsimp only)
      go_upto_region 14 with (((refine gQ rfl rfl (i:=2) (v:= .int .u16 cc) (cs':= #[.int .u8 mt,.int .u8 mc,.int .u16 cc,.int .u32 (Go.bits .or .u32 (sp % 4294967296*65536 % 4294967296) (Go.bits .and .u32 mr 65535)),.slice yx mb.length yy]) bR.out rfl ?fq ?_);(case fq=>(have m_:=(aE bR.out 2).trans (rfl:_=some (.int .u16 ms:Value)));(have nY:=ae bR.out 2);first|(go_simp;done)|(go_simp;rfl));intro yE hs_ ag;replace cM:=oX ag cM bR (by decide);replace cE:=oX ag cE bR (by decide);replace bQ:=oR ag bQ bR (by decide);replace bC:=oR ag bC bR (by decide);replace aT:=oX ag aT bR (by decide);replace bI:=oX ag bI bR (by decide);replace bY:=oR ag bY bR (by decide);replace HB:=oB ag HB lR;clear ag;replace bR:=aa.mk hs_;clear hs_))
      have H:=HG.out;clear HG;obtain ⟨⟨y,ye⟩,hp,H⟩:=bV H
      try dsimp only at H
      have HY:=aa.mk hp;clear hp;have HG:=aa.mk H;clear H
      go_wp2_with (refine Kd.bL rfl (br rfl rfl bR.out Try.underlying101 rfl ja.out) ?_)
      refine (bG.calls mt mc cc (Go.bits .or .u32 (sp % 4294967296*65536 % 4294967296) (Go.bits .and .u32 mr 65535)) yx yy mb y ye _ (Kd.av bY.out).2.2 (Kd.av bY.out).2.1 HY.out).mono ?_;rintro ev qM ⟨v_,rfl,ho,hb⟩;have qg:=aa.mk (Kd.bP ho (af HB.out));obtain ⟨Ay,cy,rfl,_,_⟩:=Kd.bW ho;clear ho;have ah:=hb;replace HB:=mB HB ah;replace cM:=mX cM ah;replace cE:=mX cE ah;replace bQ:=mR bQ ah;replace bC:=mR bC ah;replace aT:=mX aT ah;replace bI:=mX bI ah;replace bY:=mR bY ah;replace bR:=mX bR ah;clear ah;clear hb
      (try dsimp only)
      go_upto_region 26 with (((refine gQ rfl rfl (i:=9) (v:= .slice Ay y.length cy) (cs':= #[.int .u8 a,.int .u8 t,.int .u8 pr,.int .u16 i,.int .u8 fl,.int .u16 dM,.int .u32 si,.int .u32 di,.slice Ao o.length co,.slice Ay y.length cy]) aT.out rfl ?fq ?_);(case fq=>(have m_:=(aE aT.out 9).trans (rfl:_=some (.slice Ab b.length cb:Value)));(have nY:=ae aT.out 9);first|(go_simp;done)|(go_simp;rfl));intro Bm hs_ ag;replace cM:=oX ag cM aT (by decide);replace cE:=oX ag cE aT (by decide);replace bQ:=oR ag bQ aT (by decide);replace bC:=oR ag bC aT (by decide);replace bI:=oX ag bI aT (by decide);replace bY:=oR ag bY aT (by decide);replace bR:=oX ag bR aT (by decide);replace qg:=oR ag qg aT (by decide);replace HB:=oB ag HB lE;clear ag;replace aT:=aa.mk hs_;clear hs_))
      have H:=HG.out;clear HG;unfold xw at H
      obtain ⟨⟨z,ze⟩,hp,H⟩:=bV H
      try dsimp only at H
      have HZ:=aa.mk hp;clear hp;obtain ⟨rfl,rfl⟩:=Prod.mk.inj (cS H);clear H
      go_wp2_with (refine Kd.bL rfl (br rfl rfl aT.out Try.underlying73 rfl eI.out) ?_)
      refine (aI.calls k a t pr i fl dM si di Ao co o Ay cy y z ze _ (Kd.av bQ.out).2.2 (Kd.av bQ.out).2.1 (Kd.av qg.out).2.2 (Kd.av qg.out).2.1 HZ.out).mono ?_;rintro ev Mr ⟨v_,rfl,ho,hb⟩;have Gr:=aa.mk (Kd.bP ho (af HB.out));obtain ⟨Az,cz,rfl,_,_⟩:=Kd.bW ho;clear ho;have ah:=hb;replace HB:=mB HB ah;replace cM:=mX cM ah;replace cE:=mX cE ah;replace bQ:=mR bQ ah;replace bC:=mR bC ah;replace aT:=mX aT ah;replace bI:=mX bI ah;replace bY:=mR bY ah;replace bR:=mX bR ah;replace qg:=mR qg ah;clear ah;clear hb
      (try dsimp only)
      go_wp2
      (try simp only [Exit.inBlock,Exit.then])
      go_ret2
      exact ⟨_,rfl,Gr.out,HB.out⟩
     ·have se1:(sp==dp)=false:=fc se
      have se2:(sp !=dp)=true:=bne_iff_ne.2 se;rw [ax se] at H
      clear se;obtain ⟨rfl,rfl⟩:=Prod.mk.inj (cS H);clear H
      (try dsimp only)
      go_wp2
      (try simp only [Exit.inBlock,Exit.then])
      go_ret2
      exact ⟨_,rfl,Kd.cl _ _ _ _ _,HB.out⟩
 ·have Bl:(e_==0)=false:=fc ce
  have Je:(e_ !=0)=true:=bne_iff_ne.2 ce;rw [ax ce] at H
  clear ce;obtain ⟨rfl,rfl⟩:=Prod.mk.inj (cS H);clear H
  (try dsimp only)
  go_wp2
  (try simp only [Exit.inBlock,Exit.then])
  go_ret2
  exact ⟨_,rfl,Kd.cl _ _ _ _ _,HB.out⟩
end Go.Proofs.Ytkmimamminddiaa.PB
namespace Go.Proofs.Ytkmimamminddiaa.Pure
open Go.RowKit Go.Proofs.Ytkmimamminddiaa.PB Go.Proofs.ai.bX Go.Proofs.ai.dh
open Go.Proofs.Ytkmimamminddiaa.Spec Go.Proofs.Ytkmimamminddiaa.j8
structure Sh (n:Nat) (r:LK):Prop where
 h:D9 r.a r.t r.i r.fl r.dM r.s r.d r.o
 hb:gU r.b
 hl:r.b.length<=n
 hp:U8 r.pr
 c:(r.pr=17 /\ ∃ us ud uc ub,udg r.b=(us,ud,uc,ub,0) /\ r.x= .udp us ud uc ub /\ r.wz=[]) \/ (r.pr=6 /\ ∃ ts td tq ta tf tw tc tu nf tb,LL r.b=(ts,td,tq,ta,tf,tw,tc,tu,nf,tb,0) /\ r.x= .tcp ts td tq ta tf tw tc tu nf tb /\ r.wz=[]) \/
  (r.pr=1 /\ ∃ mt mc ms mr mb,iD.LS r.b=(mt,mc,ms,mr,mb,0) /\ r.x= .wC mt mc ms mr mb /\ ((rm mt mc=true /\ r.wz=[]) \/ (rm mt mc=false /\ ∃ p,xq mb=some p /\ r.wz=[p.1,p.2])))
theorem V6 {l:List Int} (h:gU l) (hl:l.length<=2000) {r:LK} (e:jN.f 4000 l=some r) (h0:r.e=0):Sh l.length r:=by
 obtain ⟨a,t,pr,i,fl,dM,s,d,o,b,e_,hi,ha,ht,Kl,hii,hfl,SX,hs',hd',ho,ho4,AhH,hb,V3⟩:=He h;have hk:D9 a t i fl dM s d o:=⟨ha,ht,hii,hfl,SX,hs',hd',ho,ho4,AhH⟩
 unfold jN.f at e
 rw [uH h (by omega) 4000 (by omega),hi,bA] at e
 dsimp only at e
 by_cases he:e_=0
 ·rw [au he] at e
  by_cases Jg:pr=17
  ·rw [au Jg] at e
   obtain ⟨us,ud,uc,ub,e2,hu,h1,h2,h3,h4,h5⟩:=L3 hb;unfold vJ at e
   rw [Fo hb (by omega),hu,bA] at e
   dsimp only at e
   by_cases he2:e2=0
   ·rw [au he2] at e
    obtain ⟨rt,hr,e⟩:=bV e
    cases rt with
    |false=>rw [ax (by decide)] at e;obtain rfl:=cS e;exact absurd h0 (by decide)
    |true=>
     rw [au rfl] at e
     obtain rfl:=cS e;exact ⟨hk,hb,V3,by unfold U8;dsimp only;omega,.inl ⟨rfl,us,ud,uc,ub,by rw [hu,he2],rfl,rfl⟩⟩
   ·rw [ax he2] at e;obtain rfl:=cS e;exact absurd h0 he2
  ·rw [ax Jg] at e
   by_cases h6:pr=6
   ·rw [au h6] at e
    obtain ⟨ts,td,tq,ta,tf,tw,tc,tu,nf,tb,e2,hu,h1,h2,h3,h4,h5,h6',h7,h8,h9,h10,SP,FL,h13⟩:=Hf hb;unfold vK at e
    rw [Ff hb (by omega),hu,bA] at e
    dsimp only at e
    by_cases he2:e2=0
    ·rw [au he2] at e
     obtain ⟨rt,hr,e⟩:=bV e
     cases rt with
     |false=>rw [ax (by decide)] at e;obtain rfl:=cS e;exact absurd h0 (by decide)
     |true=>
      rw [au rfl] at e
      obtain rfl:=cS e;exact ⟨hk,hb,V3,by unfold U8;dsimp only;omega,.inr (.inl ⟨rfl,ts,td,tq,ta,tf,tw,tc,tu,nf,tb,by rw [hu,he2],rfl,rfl⟩)⟩
    ·rw [ax he2] at e;obtain rfl:=cS e;exact absurd h0 he2
   ·rw [ax h6] at e
    by_cases h1:pr=1
    ·rw [au h1] at e
     obtain ⟨mt,mc,ms,mr,mb,e2,hu,h1',h2,h3,h4,h5,h6'⟩:=Cm hb;unfold pZ at e
     rw [iD.uH hb (by omega),hu,bA] at e
     dsimp only at e
     by_cases he2:e2=0
     ·rw [au he2] at e
      obtain ⟨rt,hr,e⟩:=bV e
      cases rt with
      |false=>rw [ax (by decide)] at e;obtain rfl:=cS e;exact absurd h0 (by decide)
      |true=>
       rw [au rfl,Kh h5 (by omega) 4000 (by omega),bA] at e
       try dsimp only at e
       rw [Cn,bA] at e
       by_cases hc:rm mt mc=true
       ·rw [au hc] at e
        obtain rfl:=cS e;exact ⟨hk,hb,V3,by unfold U8;dsimp only;omega,.inr (.inr ⟨rfl,mt,mc,ms,mr,mb,by rw [hu,he2],rfl,.inl ⟨hc,rfl⟩⟩)⟩
       ·rw [ax hc] at e
        obtain ⟨er,her,e⟩:=bV e
        cases er with
        |false=>rw [ax (by decide)] at e;obtain rfl:=cS e;exact absurd h0 (by decide)
        |true=>
         rw [au rfl] at e
         cases hin:xq mb with
         |none=>
          rw [hin] at e
          dsimp only at e
          rw [ax (by decide)] at e;obtain rfl:=cS e;exact absurd h0 (by decide)
         |some p=>
          rw [hin] at e
          dsimp only at e
          rw [au rfl] at e
          obtain rfl:=cS e;exact ⟨hk,hb,V3,by unfold U8;dsimp only;omega,.inr (.inr ⟨rfl,mt,mc,ms,mr,mb,by rw [hu,he2],rfl,.inr ⟨Bool.eq_false_iff.2 hc,p,hin,rfl⟩⟩)⟩
     ·rw [ax he2] at e;obtain rfl:=cS e;exact absurd h0 he2
    ·rw [ax h1] at e;obtain rfl:=cS e;exact absurd h0 (by decide)
 ·rw [ax he] at e;obtain rfl:=cS e;exact absurd h0 he
section
variable {a t pr i fl dM s d si sp di dp:Int} {o b:List Int}
theorem z3 (h:D9 a t i fl dM s d o) (hp:U8 pr) (hs:sB si) (hd:sB di) {y:List Int} (hl:y.length<=2500):eM.f 4000 a t pr i fl dM si di o y=some (f5 a t pr i fl dM si di o y,0) /\ aI.f 4000 a t pr i fl dM si di o y=some (f5 a t pr i fl dM si di o y,0):=by
 have xN:=h.xN;have e:=Ka (a:=a) (t:=t) (pr:=pr) (i:=i) (s:=si) (d:=di) h.hf.2 h.hg.2 h.h4 h.xN (l:=y) (by omega);exact ⟨(qI h.ha h.ht hp h.hf.1 h.hg.1 h.ho (by omega) (by omega) 4000 (by omega)).trans (congrArg some e),(l9 h.ha h.ht hp h.hf.1 h.hg.1 h.ho (by omega) (by omega) 4000 (by omega)).trans (congrArg some e)⟩
end
theorem Hh {r:LK} (h:D9 r.a r.t r.i r.fl r.dM r.s r.d r.o) (hp:U8 r.pr) {si di:Int} (hs:sB si) (hd:sB di) {y:List Int} (hl:y.length<=2500):xw 4000 r si di y=some (f5 r.a r.t r.pr r.i r.fl r.dM si di r.o y,0):=by
 unfold xw;rw [(z3 h hp hs hd hl).2,bA]
theorem Kk {l:List Int} (h:gU l) (hl:l.length<=2000) {si sp di dp:Int} (hs:sB si) (hp:uI sp) (hd:sB di) (hq:uI dp):∃ r:LK,jN.f 4000 l=some r /\ Ed.f 4000 l=some r /\ ∃ x e,vO 4000 r si sp di dp (pointed.f 4000 si sp di dp r.x)=some (x,e) /\ xx 4000 r si sp di dp=some (x,e):=by
 obtain ⟨r,e1,e2,_⟩:=O2 h (by omega);refine ⟨r,e1,e2, ?_⟩
 by_cases he:r.e=0
 ·have S:=V6 h hl e1 he
  have V3:=S.hl;unfold vO xx;rw [au he,au he]
  rcases S.c with ⟨Kl,us,ud,uc,ub,hu,hx,hn⟩|⟨Kl,ts,td,tq,ta,tf,tw,tc,tu,nf,tb,hu,hx,hn⟩|⟨Kl,mt,mc,ms,mr,mb,hu,hx,hn⟩
  ·obtain ⟨us',ud',uc',ub',e',hu',h1,h2,h3,h4,h5⟩:=L3 S.hb
   rw [hu] at hu'
   obtain ⟨rfl,rfl,rfl,rfl,rfl⟩:us=us' /\ ud=ud' /\ uc=uc' /\ ub=ub' /\ 0=e':=by simpa using hu'
   have hY:(l8 sp dp (L5 uc si di sp dp ub) ub).length<=2500:=by rw [oW];omega
   rw [ax (fun hh=>by have:=hh.1;omega),au Kl,hx,OY hs hd hp hq h4 (by omega) us ud 4000 (Nat.le_refl _),bA,(z3 S.h S.hp hs hd hY).1];refine ⟨_,_,rfl, ?_⟩;unfold S8;rw [DP S.hb (by omega),hu,bA]
   dsimp only
   by_cases hc:uc=0
   ·rw [au hc,qG sp dp uc (by omega),ax (by omega),bA]
    have e:L5 uc si di sp dp ub=uc:=by unfold L5;rw [au hc,hc]
    rw [e] at hY|-
    exact Hh S.h S.hp hs hd hY
   ·rw [ax hc,JY hs hd hp hq h4 (by omega) 4000 (Nat.le_refl _),bA,qG sp dp _ (by omega),ax (by omega),bA]
    have e:L5 uc si di sp dp ub=BI (pK si di sp dp ub):=by unfold L5;rw [ax hc]
    rw [e] at hY|-
    exact Hh S.h S.hp hs hd hY
  ·obtain ⟨ts',td',tq',ta',tf',tw',tc',tu',to',tb',e',hu',h1,h2,h3,h4,h5,h6,h7,h8,h9,h10,SP,FL,h13⟩:=Hf S.hb
   rw [hu] at hu'
   obtain ⟨rfl,rfl,rfl,rfl,rfl,rfl,rfl,rfl,rfl,rfl,rfl⟩:ts=ts' /\ td=td' /\ tq=tq' /\ ta=ta' /\ tf=tf' /\ tw=tw' /\ tc=tc' /\ tu=tu' /\ nf=to' /\ tb=tb' /\ 0=e':=by simpa using hu'
   have g:Ki sp dp tq ta tf tw tu nf tb:=⟨hp,hq,h3,h4,h5,h6,h8,h9,h10,SP,FL,by omega⟩
   have hY:(l7 sp dp tq ta tf tw (AhD si di sp dp tq ta tf tw tu nf tb) tu nf tb).length<=2500:=by rw [oU];omega
   rw [ax (fun hh=>by have:=hh.1;omega),ax (by omega),au Kl,hx,OZ hs hd g ts td 4000 (Nat.le_refl _),bA,(z3 S.h S.hp hs hd hY).1];refine ⟨_,_,rfl, ?_⟩;unfold S9;rw [DH S.hb (by omega),hu,bA]
   dsimp only
   rw [JV hs hd h5 h9 h10 SP FL (by omega) 4000 (Nat.le_refl _),bA,vW (by omega) (by omega) 4000 (by omega),xM h10 SP (by omega),bA];exact Hh S.h S.hp hs hd hY
  ·obtain ⟨mt',mc',ms',mr',mb',e',hu',h1,h2,h3,h4,h5,h6⟩:=Cm S.hb
   rw [hu] at hu'
   obtain ⟨rfl,rfl,rfl,rfl,rfl,rfl⟩:mt=mt' /\ mc=mc' /\ ms=ms' /\ mr=mr' /\ mb=mb' /\ 0=e':=by simpa using hu'
   have msg:∀ m,Fx 4000 r si di mt mc ms m mb=some (f5 r.a r.t r.pr r.i r.fl r.dM si di r.o (iD.f5 mt mc (VZ mt mc m mb) m mb),0):=fun m=>by
    unfold Fx;rw [iD.AP mt mc ms m mb 4000 (Nat.le_refl _) (by omega) (iD.kQ h1 h2 h5),bA,iD.l9 _ _ _ _ (by omega),ax (by omega),bA];exact Hh S.h S.hp hs hd (by rw [iD.iP];omega)
   have hY:∀ m,(iD.f5 mt mc (VZ mt mc m mb) m mb).length<=2500:=fun m=>by rw [iD.iP];omega
   rw [ax (show ¬ r.pr=17 by omega),ax (show ¬ r.pr=6 by omega)];unfold L7;rw [iD.qH S.hb (by omega),hu,bA]
   dsimp only
   rw [hx]
   rcases hn with ⟨hc,hn⟩|⟨hc,p,_,hn⟩
   ·rw [hn]
    simp only [List.length_nil,Nat.lt_irrefl,false_and,false_or,if_false]
    by_cases hpd:sp=dp
    ·rw [ax (fun hh=>hh.2 hpd),au hpd,L6 h1 h2 h5 (by omega) hc si sp di dp h4 hp 4000 (Nat.le_refl _),bA,(z3 S.h S.hp hs hd (hY _)).1,msg]
     have e0:Go.bits .or .u32 (sp % 4294967296*65536 % 4294967296) (Go.bits .and .u32 mr 65535)=mr % 65536+sp*65536:=by
      unfold sB at h4
      unfold uI at hp
      rw [pI h4.1 h4.2,show sp % 4294967296*65536 % 4294967296=sp*65536 from by omega,AK 16 (by omega) (by omega) (by omega) (by omega) (by omega) (by omega)]
      omega
     rw [e0];exact ⟨_,_,rfl,rfl⟩
    ·rw [au ⟨Kl,hpd⟩,ax hpd]
     exact ⟨_,_,rfl,rfl⟩
   ·rw [hn,au (show 0<([p.1,p.2]:List nj).length from Nat.zero_lt_succ _)]
    by_cases hz:sp=0
    ·by_cases hw:dp=0
     ·rw [ax (fun hh=>hh.2.elim (fun x=>x.2 ⟨hz,hw⟩) (fun x=>x (hz.trans hw.symm))),au hz,au hw,O0 h1 h2 h5 (by omega) hc si sp di dp 4000 (Nat.le_refl _),bA,(z3 S.h S.hp hs hd (hY _)).1,msg]
      exact ⟨_,_,rfl,rfl⟩
     ·rw [au ⟨Kl,.inl ⟨Nat.zero_lt_succ _,fun x=>hw x.2⟩⟩,au hz,ax hw]
      exact ⟨_,_,rfl,rfl⟩
    ·rw [au ⟨Kl,.inl ⟨Nat.zero_lt_succ _,fun x=>hz x.1⟩⟩,ax hz]
     exact ⟨_,_,rfl,rfl⟩
 ·unfold vO xx
  rw [ax he,ax he];exact ⟨_,_,rfl,rfl⟩
end Go.Proofs.Ytkmimamminddiaa.Pure
namespace Go.Proofs.Ytkmimamminddiaa.PB
open Go.RowKit Go.Proofs.ai.bX Go.Proofs.ai.dh Go.Proofs.ai.iL
open Go.Proofs.Ytkmimamminddiaa.Spec Go.Proofs.Ytkmimamminddiaa.j8
theorem rewriteChanges.calls (p0 p1 p2 p3 p4 p5 p6 p7 p8 p9 side si ps di pd:Int) (w:World) (hp:0<=p0 /\ (0<=p8 /\ p8<=255) /\ (0<=p9 /\ p9<=255)) (h1:0<=si /\ si<=4294967295) (h2:0<=ps /\ ps<=65535) (h3:0<=di /\ di<=4294967295) (h4:0<=pd /\ pd<=65535):
  Calls Try.prog 7 #[.agg #[.int .u8 p0,.int .u8 p1,.int .u8 p2,.int .u8 p3,.int .u8 p4,.int .u8 p5,.int .u8 p6,.int .u8 p7,.int .u8 p8,.int .u8 p9],.int .u8 side,.agg #[.int .u32 si,.int .u16 ps],.agg #[.int .u32 di,.int .u16 pd]] w fun e w'=>e= .returned (.bool true) /\ Below w.heap.size w w':=by
 have AnT:=Try.underlying25;have iQ:=Try.underlying65;have HB:=gj w;have AgR:aa ((Try.prog.info? 25).map (·.size)=some 10):=⟨by kernel_rfl⟩
 have fL:aa ((Try.prog.info? 65).map (·.size)=some 2):=⟨by kernel_rfl⟩
 obtain ⟨b,hpk,hbB,V3⟩:=Pure.Kf 4000 (Nat.le_refl _) p0 p1 p2 p3 p4 p5 p6 p7 p8 p9 (wrap64 (side.tmod 2)) 0 hp.1;obtain ⟨r,hlk,hrl,x,xe,hch,hrc⟩:=Pure.Kk hbB (by omega) h1 h2 h3 h4;have Aoz:=aa.mk hp.2;have HPK:=aa.mk hpk;have HRL:=aa.mk hrl;have HCH:=aa.mk (show jY.f 4000 b si ps di pd=some (x,xe) by unfold jY.f;rw [hlk,bA];exact hch);have HRC:=aa.mk hrc;have HM:=aa.mk (Pure.V4 hbB (by omega));clear hp h1 h2 h3 h4 hpk hlk hrl hch hrc hbB V3
 go_enter Try.func7,Try.ntmps7
 go_upto_region 1 with (first|((with_reducible refine aA (N:=4) rfl ?_);refine aC ?gJ (N:=4) ?iS (cs:= #[.int .u8 p0,.int .u8 p1,.int .u8 p2,.int .u8 p3,.int .u8 p4,.int .u8 p5,.int .u8 p6,.int .u8 p7,.int .u8 p8,.int .u8 p9]) (t:=25) ?fq ?_;(case iS=>rfl);(case gJ=>rfl);(case fq=>first|(go_simp;done)|(go_simp;rfl));intro gk cv w1 bJ cP;have AvM:=aa.mk (show w.heap.size<=gk by rw [cv];exact af HB.out);have Ko:=aa.mk bJ;have ah:=cP;replace HB:=mB HB ah;clear ah;clear cv bJ cP)|((with_reducible refine aA (N:=6) rfl ?_);refine aC ?gJ (N:=6) ?iS (cs:= #[.int .u32 si,.int .u16 ps]) (t:=65) ?fq ?_;(case iS=>rfl);(case gJ=>rfl);(case fq=>first|(go_simp;done)|(go_simp;rfl));intro gs cv w2 bJ cP;have Dc:=aa.mk (show w.heap.size<=gs by rw [cv];exact af HB.out);have cM:=aa.mk bJ;have ah:=cP;replace HB:=mB HB ah;replace Ko:=mX Ko ah;clear ah;clear cv bJ cP)|((with_reducible refine aA (N:=7) rfl ?_);refine aC ?gJ (N:=7) ?iS (cs:= #[.int .u32 di,.int .u16 pd]) (t:=65) ?fq ?_;(case iS=>rfl);(case gJ=>rfl);(case fq=>first|(go_simp;done)|(go_simp;rfl));intro gd cv w3 bJ cP;have Dd:=aa.mk (show w.heap.size<=gd by rw [cv];exact af HB.out);have cE:=aa.mk bJ;have iG:aa (gs≠gd):=⟨by rw [cv];exact (dJ cM).out⟩;have ah:=cP;replace HB:=mB HB ah;replace Ko:=mX Ko ah;replace cM:=mX cM ah;clear ah;clear cv bJ cP))
 go_wp2_with fail
 refine (xo.calls _).mono ?_;rintro ev w4 ⟨rfl,hb⟩;have ah:=hb;replace HB:=mB HB ah;replace Ko:=mX Ko ah;replace cM:=mX cM ah;replace cE:=mX cE ah;clear ah;clear hb
 (try dsimp only)
 go_wp2_with (refine Kd.bL rfl (br rfl rfl Ko.out Try.underlying25 rfl AgR.out) ?_)
 refine (bE.calls 4000 p0 p1 p2 p3 p4 p5 p6 p7 p8 p9 (wrap64 (side.tmod 2)) 0 b _ Aoz.out HPK.out).mono ?_;rintro ev w5 ⟨v_,rfl,ho,hb⟩;have bC:=aa.mk (Kd.bP ho (af HB.out));obtain ⟨Ab,cb,rfl,_,_⟩:=Kd.bW ho;clear ho;have ah:=hb;replace HB:=mB HB ah;replace Ko:=mX Ko ah;replace cM:=mX cM ah;replace cE:=mX cE ah;clear ah;clear hb
 (try dsimp only)
 go_wp2_with (first|(refine Kd.bL rfl (br rfl rfl cM.out Try.underlying65 rfl fL.out) ?_)|(refine Kd.bL rfl (br rfl rfl cE.out Try.underlying65 rfl fL.out) ?_))
 refine (jY.calls 4000 Ab cb b si ps di pd x xe _ (Kd.av bC.out).2.2 (Kd.av bC.out).2.1 HCH.out).mono ?_;rintro ev w6 ⟨v_,rfl,ho,hb⟩;have nk:=aa.mk (Kd.bP ho (af HB.out));obtain ⟨Ax,cx,rfl,_,_⟩:=Kd.bW ho;clear ho;have ah:=hb;replace HB:=mB HB ah;replace Ko:=mX Ko ah;replace cM:=mX cM ah;replace cE:=mX cE ah;replace bC:=mR bC ah;clear ah;clear hb
 (try dsimp only)
 go_wp2_with (first|(refine Kd.bL rfl (br rfl rfl cM.out Try.underlying65 rfl fL.out) ?_)|(refine Kd.bL rfl (br rfl rfl cE.out Try.underlying65 rfl fL.out) ?_))
 refine (V5.via 4000 Ab cb b r si ps di pd x xe _ (Kd.av bC.out).2.2 (Kd.av bC.out).2.1 (fun w2 h2=>Ed.calls 4000 _ _ _ _ _ h2 (Kd.av bC.out).2.1 HRL.out HM.out) HRC.out).mono ?_;rintro ev w7 ⟨v_,rfl,ho,hb⟩;have qg:=aa.mk (Kd.bP ho (af HB.out));obtain ⟨Ay,cy,rfl,_,_⟩:=Kd.bW ho;clear ho;have ah:=hb;replace HB:=mB HB ah;replace Ko:=mX Ko ah;replace cM:=mX cM ah;replace cE:=mX cE ah;replace bC:=mR bC ah;replace nk:=mR nk ah;clear ah;clear hb
 (try dsimp only)
 have z_:(xe==xe)=true:=beq_self_eq_true _
 go_wp2_with fail
 refine (nN.calls Ax cx x Ay cy x true _ (Kd.av nk.out).2.2 (Kd.av nk.out).2.1 (Kd.av qg.out).2.2 (Kd.av qg.out).2.1 (LJ x)).mono ?_;rintro ev w_ ⟨rfl,⟨nd,rfl⟩⟩;have ah:=fe (Below.refl w7.heap.size w7) nd;replace HB:=mB HB ah;replace Ko:=mX Ko ah;replace cM:=mX cM ah;replace cE:=mX cE ah;replace bC:=mR bC ah;replace nk:=mR nk ah;replace qg:=mR qg ah;clear ah;generalize w7.drewN nd=w8 at HB Ko cM cE bC nk qg|-
 (try dsimp only)
 go_wp2
 (try simp only [Exit.inBlock,Exit.then])
 go_ret
 exact ⟨rfl,HB.out⟩
end Go.Proofs.Ytkmimamminddiaa.PB
namespace Go.Proofs.ai.yZ
open Go.Joins Go.ChangeShapes Go.WideShapes Go.RowKit Go.Deep
theorem wA {l p:List Value} {a k b:Nat} (h:(l.drop a).take k=p) (hb:a+k=b):l.drop a=p++l.drop b:=by
 have h1:=(List.take_append_drop k (l.drop a)).symm;rw [h,List.drop_drop,hb] at h1
 exact h1
section
variable {H:Type} {enc:TypeId×Value ->H} {w:World} {base:Nat} {spare:Nat ->Bool} {held:Bool}
theorem O3 {r:Reach} {b0:Nat} {v:Value} {d:DataW H} {p:List MemPlace} (hv:Value.okWide Try.prog w r b0 25 v) (h:DataW.Trod enc Try.prog w base spare held 25 v d p):
  ∃ x0 x1 x2 x3 x4 x5 x6 x7 x8 x9:Int,v= .agg #[.int .u8 x0,.int .u8 x1,.int .u8 x2,.int .u8 x3,.int .u8 x4,.int .u8 x5,.int .u8 x6,.int .u8 x7,.int .u8 x8,.int .u8 x9] /\ (Lit.int .u8 x0).wf=true /\ (Lit.int .u8 x1).wf=true /\ (Lit.int .u8 x2).wf=true /\ (Lit.int .u8 x3).wf=true /\ (Lit.int .u8 x4).wf=true /\ (Lit.int .u8 x5).wf=true /\ (Lit.int .u8 x6).wf=true /\ (Lit.int .u8 x7).wf=true /\ (Lit.int .u8 x8).wf=true /\ (Lit.int .u8 x9).wf=true:=by
 have k5:Try.prog.cellsOf 5=1:=by kernel_rfl
 have kT:Try.prog.cellsOf 25=10:=by kernel_rfl
 obtain ⟨cs,rfl,hsz⟩:=okWide_struct Try.underlying25 hv;obtain ⟨l⟩:=cs;obtain ⟨fuel,hf⟩:=h;obtain ⟨xs,n,_,hx,hlc,hlen,hg⟩:=DataW.trod_struct Try.underlying25 hf;have hl:l.length=10:=hlc.trans kT;have g0:DataW.trod enc Try.prog w base spare held n 5 ((l.drop 0).take (Try.prog.cellsOf 5))=xs[0]?:=hg 0 _ rfl;obtain ⟨y0,hy0⟩:∃ y,xs[0]?=some y:=⟨_,List.getElem?_eq_getElem (by rw [hlen];decide)⟩
 rw [hy0,k5] at g0
 obtain ⟨x0,e0,_,w0⟩:=DataW.trod_int Try.underlying5 g0;have g1:DataW.trod enc Try.prog w base spare held n 5 ((l.drop 1).take (Try.prog.cellsOf 5))=xs[1]?:=hg 1 _ rfl;obtain ⟨y1,hy1⟩:∃ y,xs[1]?=some y:=⟨_,List.getElem?_eq_getElem (by rw [hlen];decide)⟩
 rw [hy1,k5] at g1
 obtain ⟨x1,e1,_,w1⟩:=DataW.trod_int Try.underlying5 g1;have g2:DataW.trod enc Try.prog w base spare held n 5 ((l.drop 2).take (Try.prog.cellsOf 5))=xs[2]?:=hg 2 _ rfl;obtain ⟨y2,hy2⟩:∃ y,xs[2]?=some y:=⟨_,List.getElem?_eq_getElem (by rw [hlen];decide)⟩
 rw [hy2,k5] at g2
 obtain ⟨x2,e2,_,w2⟩:=DataW.trod_int Try.underlying5 g2;have g3:DataW.trod enc Try.prog w base spare held n 5 ((l.drop 3).take (Try.prog.cellsOf 5))=xs[3]?:=hg 3 _ rfl;obtain ⟨y3,hy3⟩:∃ y,xs[3]?=some y:=⟨_,List.getElem?_eq_getElem (by rw [hlen];decide)⟩
 rw [hy3,k5] at g3
 obtain ⟨x3,e3,_,w3⟩:=DataW.trod_int Try.underlying5 g3;have g4:DataW.trod enc Try.prog w base spare held n 5 ((l.drop 4).take (Try.prog.cellsOf 5))=xs[4]?:=hg 4 _ rfl;obtain ⟨y4,hy4⟩:∃ y,xs[4]?=some y:=⟨_,List.getElem?_eq_getElem (by rw [hlen];decide)⟩
 rw [hy4,k5] at g4
 obtain ⟨x4,e4,_,w4⟩:=DataW.trod_int Try.underlying5 g4;have g5:DataW.trod enc Try.prog w base spare held n 5 ((l.drop 5).take (Try.prog.cellsOf 5))=xs[5]?:=hg 5 _ rfl;obtain ⟨y5,hy5⟩:∃ y,xs[5]?=some y:=⟨_,List.getElem?_eq_getElem (by rw [hlen];decide)⟩
 rw [hy5,k5] at g5
 obtain ⟨x5,e5,_,w5⟩:=DataW.trod_int Try.underlying5 g5;have g6:DataW.trod enc Try.prog w base spare held n 5 ((l.drop 6).take (Try.prog.cellsOf 5))=xs[6]?:=hg 6 _ rfl;obtain ⟨y6,hy6⟩:∃ y,xs[6]?=some y:=⟨_,List.getElem?_eq_getElem (by rw [hlen];decide)⟩
 rw [hy6,k5] at g6
 obtain ⟨x6,e6,_,w6⟩:=DataW.trod_int Try.underlying5 g6;have g7:DataW.trod enc Try.prog w base spare held n 5 ((l.drop 7).take (Try.prog.cellsOf 5))=xs[7]?:=hg 7 _ rfl;obtain ⟨y7,hy7⟩:∃ y,xs[7]?=some y:=⟨_,List.getElem?_eq_getElem (by rw [hlen];decide)⟩
 rw [hy7,k5] at g7
 obtain ⟨x7,e7,_,w7⟩:=DataW.trod_int Try.underlying5 g7;have g8:DataW.trod enc Try.prog w base spare held n 5 ((l.drop 8).take (Try.prog.cellsOf 5))=xs[8]?:=hg 8 _ rfl;obtain ⟨y8,hy8⟩:∃ y,xs[8]?=some y:=⟨_,List.getElem?_eq_getElem (by rw [hlen];decide)⟩
 rw [hy8,k5] at g8
 obtain ⟨x8,e8,_,w8⟩:=DataW.trod_int Try.underlying5 g8;have g9:DataW.trod enc Try.prog w base spare held n 5 ((l.drop 9).take (Try.prog.cellsOf 5))=xs[9]?:=hg 9 _ rfl;obtain ⟨y9,hy9⟩:∃ y,xs[9]?=some y:=⟨_,List.getElem?_eq_getElem (by rw [hlen];decide)⟩
 rw [hy9,k5] at g9
 obtain ⟨x9,e9,_,w9⟩:=DataW.trod_int Try.underlying5 g9;have hd:l=l.drop 0:=rfl;rw [wA e0 (show 0+1=1 from rfl),wA e1 (show 1+1=2 from rfl),wA e2 (show 2+1=3 from rfl),wA e3 (show 3+1=4 from rfl),wA e4 (show 4+1=5 from rfl),wA e5 (show 5+1=6 from rfl),wA e6 (show 6+1=7 from rfl),wA e7 (show 7+1=8 from rfl),wA e8 (show 8+1=9 from rfl),wA e9 (show 9+1=10 from rfl),List.drop_eq_nil_of_le (show l.length<=10 by omega)] at hd
 subst hd;exact ⟨x0,x1,x2,x3,x4,x5,x6,x7,x8,x9,rfl,w0,w1,w2,w3,w4,w5,w6,w7,w8,w9⟩
theorem Ef {r:Reach} {b0:Nat} {v:Value} {d:DataW H} {p:List MemPlace} (hv:Value.okWide Try.prog w r b0 65 v) (h:DataW.Trod enc Try.prog w base spare held 65 v d p):
  ∃ x0 x1:Int,v= .agg #[.int .u32 x0,.int .u16 x1] /\ (Lit.int .u32 x0).wf=true /\ (Lit.int .u16 x1).wf=true:=by
 have k27:Try.prog.cellsOf 27=1:=by kernel_rfl
 have k45:Try.prog.cellsOf 45=1:=by kernel_rfl
 have kT:Try.prog.cellsOf 65=2:=by kernel_rfl
 obtain ⟨cs,rfl,hsz⟩:=okWide_struct Try.underlying65 hv;obtain ⟨l⟩:=cs;obtain ⟨fuel,hf⟩:=h;obtain ⟨xs,n,_,hx,hlc,hlen,hg⟩:=DataW.trod_struct Try.underlying65 hf;have hl:l.length=2:=hlc.trans kT;have g0:DataW.trod enc Try.prog w base spare held n 27 ((l.drop 0).take (Try.prog.cellsOf 27))=xs[0]?:=hg 0 _ rfl;obtain ⟨y0,hy0⟩:∃ y,xs[0]?=some y:=⟨_,List.getElem?_eq_getElem (by rw [hlen];decide)⟩
 rw [hy0,k27] at g0
 obtain ⟨x0,e0,_,w0⟩:=DataW.trod_int Try.underlying27 g0;have g1:DataW.trod enc Try.prog w base spare held n 45 ((l.drop 1).take (Try.prog.cellsOf 45))=xs[1]?:=hg 1 _ rfl;obtain ⟨y1,hy1⟩:∃ y,xs[1]?=some y:=⟨_,List.getElem?_eq_getElem (by rw [hlen];decide)⟩
 rw [hy1,k45] at g1
 obtain ⟨x1,e1,_,w1⟩:=DataW.trod_int Try.underlying45 g1;have hd:l=l.drop 0:=rfl;rw [wA e0 (show 0+1=1 from rfl),wA e1 (show 1+1=2 from rfl),List.drop_eq_nil_of_le (show l.length<=2 by omega)] at hd
 subst hd;exact ⟨x0,x1,rfl,w0,w1⟩
end
end Go.Proofs.ai.yZ
