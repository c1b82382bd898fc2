/- Texts of this claim, merged: RwHop, RwInr0, RwInr1, RwInr, PBx22, PBx25, PBx24, PBx28, PBx37, PBx38, PBx39, RwBody. -/
import Derived.Test.YtkmimamminddiaaZnd
import Derived.Test.YtkmimamminddiaaZnc
import Derived.Deep.Cut
import Derived.Deep.CutRange
import Derived.Deep.CutBlock
import Derived.Deep.WholeRow
import Derived.Test.YtkmimamminddiaaZnb
import Derived.Lib.SlBytesConst
set_option maxHeartbeats 40000000
set_option maxRecDepth 100000
set_option linter.unusedVariables false
set_option linter.unusedSimpArgs false
namespace Go.Proofs.Ytkmimamminddiaa.PB
open Go.RowKit Go.Proofs.ah.bT Go.Proofs.ah.cY Go.Proofs.ah.iw
def qO.f (k:Nat) (l:List Int):Option (List Int×Int):=
 (da.f k l).bind fun ⟨_,t,_,_,_,_,_,_,_,_,e⟩=>if e=0 then
  if t=0 then some ([],21) else (fQ.f l).bind fun ⟨x,hd⟩=>if 12<=x.length /\ 0<=hd /\ hd<=(x.length:Int) then (rE.f k (x.set 8 ((rd x 8 - 1) % 256)) hd.toNat).bind fun y=>some (y,0) else none
 else some ([],e)
theorem qO.calls (k:Nat) (A:Option Addr) (c:Nat) (l:List Int) (rb:List Int) (re:Int) (w:World) (hC:Kd.C (Kd.int .u8) w A l.length l) (hL:l.length<=c) (h:qO.f k l=some (rb,re)):
  Calls Try.prog 34 #[.slice A l.length c] w fun e w'=>∃ vr:Value,e= .returned (.tuple #[vr,.int .i64 re]) /\ Kd.R (Kd.int .u8) 5 w' w.heap.size (fun _=>True) vr rb /\ Below w.heap.size w w':=by
 have iW:=Try.underlying73;unfold qO.f at h
 obtain ⟨⟨a,t,pr,i,fl,cr,s,d,o,b,e_⟩,hp,h⟩:=bR h;have HB:=gI w;have HC:=aa.mk hC;have HL:=aa.mk hL;have HP:=aa.mk hp;have HF:=aa.mk h;have eN:aa ((Try.prog.info? 73).map (·.size)=some 10):=⟨by kernel_rfl⟩
 clear hC hL h hp
 go_enter Try.func34,Try.ntmps34
 go_wp2_with fail
 refine (da.calls k A c l a t pr i fl cr s d o b e_ _ (Kd.aW HC.out HB.out) HL.out HP.out).mono ?_;rintro ev w1 ⟨vo,vb,rfl,ho,qd,hb⟩;have bL:=lO ho HB;obtain ⟨Ao,co,rfl,_,_⟩:=Kd.cj ho;clear ho;have bI:=lO qd HB;obtain ⟨Ab,cb,rfl,_,_⟩:=Kd.cj qd;clear qd;have ai:=hb;replace HB:=mB HB ai;clear ai;clear hb HP bL bI
 (try dsimp only)
 go_upto_region 2 with (((refine fc rfl rfl rfl rfl rfl eN.out rfl (by simp [Value.oneCell']) ?_);intro fU gV dg))
 revert fU gV dg;intro w2 gV dg;have aZ:aa (w2.heap[w1.heap.size]?=some (.cells #[.int .u8 a,.int .u8 t,.int .u8 pr,.int .u16 i,.int .u8 fl,.int .u16 cr,.int .u32 s,.int .u32 d,.slice Ao o.length co,.slice Ab b.length cb] 73 (0,0))):=⟨gV⟩
 have lV:=yY HB;have ai:=dg;replace HB:=mB HB ai;clear ai;clear gV dg;generalize w1.heap.size=gp at aZ lV|-
 have Ti:w2.cell? ⟨gp,1,none⟩=some (.int .u8 t):=(aN aZ.out 1).trans rfl;have H:=HF.out;clear HF
 (try dsimp only at H)
 by_cases ce:e_=0
 rotate_left
 ·have Ad:(e_==0)=false:=fq ce
  have G1:(e_ !=0)=true:=bne_iff_ne.2 ce;rw [av ce] at H
  clear ce;simp only [Option.some.injEq,Prod.mk.injEq] at H
  obtain ⟨rfl,rfl⟩:=H
  (try dsimp only)
  go_wp2
  (try simp only [Exit.inBlock,Exit.then])
  go_ret2
  exact ⟨_,rfl,Kd.bX _ _ _ _ _,HB.out⟩
 have Ad:(e_==0)=true:=fF ce
 have G1:(e_ !=0)=false:=by rw [bne,Ad];rfl
 rw [aq ce] at H
 clear ce
 by_cases ct:t=0
 ·have ct1:(t==0)=true:=fF ct
  have ct2:(t !=0)=false:=by rw [bne,ct1];rfl
  rw [aq ct] at H
  clear ct;simp only [Option.some.injEq,Prod.mk.injEq] at H
  obtain ⟨rfl,rfl⟩:=H
  (try dsimp only)
  go_wp2
  (try simp only [Exit.inBlock,Exit.then])
  go_ret2
  exact ⟨_,rfl,Kd.bX _ _ _ _ _,HB.out⟩
 have ct1:(t==0)=false:=fq ct
 have ct2:(t !=0)=true:=bne_iff_ne.2 ct;rw [av ct] at H
 clear ct;obtain ⟨⟨x,hd⟩,hx,H⟩:=bR H;dsimp only at H
 have HG:=aa.mk H;clear H
 (try dsimp only)
 go_wp2_with fail
 clear Ti;refine (fQ.calls A c l x hd _ (Kd.aW HC.out HB.out) HL.out hx).mono ?_;rintro ev w3 ⟨vx,rfl,ho,hb⟩;have eB:=aa.mk (Kd.bP ho (af HB.out));clear ho hx;have ai:=hb;replace HB:=mB HB ai;replace aZ:=mX aZ ai;clear ai;clear aZ;clear hb;have H:=HG.out;clear HG
 by_cases hxl:12<=x.length /\ 0<=hd /\ hd<=(x.length:Int)
 case neg=>rw [av hxl] at H;cases H
 rw [aq hxl] at H
 obtain ⟨IW,hd0,hdx⟩:=hxl;obtain ⟨m,rfl⟩:∃ m:Nat,hd=(m:Int):=⟨hd.toNat,(Int.toNat_of_nonneg hd0).symm⟩
 rw [Int.toNat_natCast] at H
 obtain ⟨r,hr,H⟩:=bR H;simp only [Option.some.injEq,Prod.mk.injEq] at H
 obtain ⟨rfl,rfl⟩:=H;obtain ⟨go,cap,rfl,hgo,_,_⟩:=Kd.ue eB.out (show 0<x.length by omega);obtain ⟨hc0,hf0⟩:=Kd.lg (0:Int) eB.out ((8:Nat):Int) (by omega) (by omega);have Zb:=Kd.Dd eB.out ((8:Nat):Int) ((rd x 8 - 1) % 256);rw [Int.toNat_natCast] at hc0 hf0 Zb
 have HS0:aa (w3.cell? ⟨go,8,none⟩=some (.int .u8 (rd x 8))):=⟨hc0⟩
 have HF0:=aa.mk hf0;have HRn:=aa.mk Zb;have HGO:=aa.mk hgo;have HNX:=aa.mk IW;have HMX:aa (m<=x.length):=⟨by omega⟩
 have HRR:=aa.mk hr;have b0:decide (8<(x.length:Int))=true:=bN (by omega);have b1:decide (8<x.length)=true:=bN (by omega);have b6:((x.length:Int)<=8)=False:=eq_false (by omega);have b7:(x.length<=8)=False:=eq_false (by omega);have b8:((8:Int)<(x.length:Int))=True:=eq_true (by omega);clear hc0 hf0 Zb hgo IW hd0 hdx hr;have hs0:=HS0.out;have LC:=HF0.out
 (try dsimp only)
 go_upto_region 8 with ((refine lX rfl rfl (w1:=w3.setCell ⟨go,8,none⟩ (.int .u8 ((rd x 8 - 1) % 256))) ?eY ?_);(case eY=>first|(go_simp;done)|(go_simp;rfl)))
 clear hs0 LC HS0 HF0 b0 b1 b6 b7 b8;have gY:=aa.mk (j7.below (j7.setCell w3 go 8 (.int .u8 ((rd x 8 - 1) % 256))) HB.out HGO.out);clear HB eB;have HB:=gY;clear gY;generalize w3.setCell ⟨go,8,none⟩ (.int .u8 ((rd x 8 - 1) % 256))=w9 at HB HRn|-
 go_wp2_with fail
 refine (rE.calls k go x.length cap m (x.set 8 ((rd x 8 - 1) % 256)) r w _ HRn.out HB.out HGO.out HNX.out HMX.out HRR.out).mono ?_;rintro ev ku ⟨rfl,ho,hb⟩;have Mb:=aa.mk ho;have gY:=aa.mk hb;clear ho hb HRn HRR
 (try dsimp only)
 go_wp2
 (try simp only [Exit.inBlock,Exit.then])
 go_ret2
 exact ⟨_,rfl,Mb.out,gY.out⟩
def Pw (k a:Nat):List Int ->Nat ->Int ->List Int ->Option (Int×List Int)
 |[],_,x,out=>some (x,out)
 |n::ns,j,x,out=>(cH.f (out.drop (a+12+2*j))).bind fun o=>(qv.f k x o n).bind fun x'=>Pw k a ns (j+1) x' (ig out (a+12+2*j) n)
def wI (si di:Int):List Int:=[si / 65536 % 65536,si % 65536,di / 65536 % 65536,di % 65536]
def Ci (v:Int) (out:List Int) (a h:Nat) (sp dp:Int):List Int:=if v=1 then ig out (a+(h+4)) sp else ig (ig out (a+h) sp) (a+(h+2)) dp
def Tj (k:Nat) (out:List Int) (hd:Nat) (si sp di dp:Int):Option (List Int×Int):=
 (bO.f k (out.drop (hd+8))).bind fun q=>if rd out ((hd+8+9:Nat):Int)=1 /\ ¬ sp=dp then some ([],21) else
  (cH.f (out.drop (hd+8+10))).bind fun x0=>(Pw k (hd+8) (wI si di) 0 x0 out).bind fun p=>
  (mK.f k ((ig (Ci (rd out ((hd+8+9:Nat):Int)) (ig p.2 (hd+8+10) p.1) (hd+8) q.1.toNat sp dp) (hd+2) 0).drop hd)).bind fun s=>some (ig (ig (Ci (rd out ((hd+8+9:Nat):Int)) (ig p.2 (hd+8+10) p.1) (hd+8) q.1.toNat sp dp) (hd+2) 0) (hd+2) s,0)
def Me (k:Nat) (r:LK) (l:List Int) (si sp di dp:Int):Option (List Int×Int):=
 if r.e=0 then (fQ.f l).bind fun q=>if r.qD.length=0 then some ([],21) else Tj k q.1 q.2.toNat si sp di dp else some ([],r.e)
def Zc (W W2:World):Prop:=∀ (g' t':Nat) (cs:Array Value) (f:Nat×Nat),t'≠5 ->W.heap[g']?=some (.cells cs t' f) ->W2.heap[g']?=some (.cells cs t' f)
section
variable {w0 w:World} {g n c:Nat} {xs:List Int}
theorem tV (hR:aa (Kd.R (Kd.int .u8) 5 w w0.heap.size (fun _=>True) (.slice (some ⟨g,0,none⟩) n c) xs)):xs.length=n:=(Kd.ay hR.out).1.symm
theorem NV (hR:aa (Kd.R (Kd.int .u8) 5 w w0.heap.size (fun _=>True) (.slice (some ⟨g,0,none⟩) n c) xs)) (j m c2:Nat) (r:Int) (hm:m=n - j) (hj:j<n) (hc:m<=c2) (h:cH.f (xs.drop j)=some r):Calls Try.prog 87 #[.slice (some ⟨g,j,none⟩) m c2] w fun e w'=>e= .returned (.int .u16 r) /\ bB w w':=by
 have hl:=tV hR;have h2:=cH.calls (some ⟨g,j,none⟩) c2 (xs.drop j) r w (Mc hR.out j (by omega)) (by rw [List.length_drop];omega) h
 rwa [List.length_drop,hl,<- hm] at h2
theorem Mf (hR:aa (Kd.R (Kd.int .u8) 5 w w0.heap.size (fun _=>True) (.slice (some ⟨g,0,none⟩) n c) xs)) (k j m c2:Nat) (r:Int) (ok:Bool) (hm:m=n - j) (hj:j<n) (hc:m<=c2) (h:bO.f k (xs.drop j)=some (r,ok)):Calls Try.prog 86 #[.slice (some ⟨g,j,none⟩) m c2] w fun e w'=>e= .returned (.tuple #[.int .i64 r,.bool ok]) /\ Below w.heap.size w w':=by
 have hl:=tV hR;have h2:=bO.calls k (some ⟨g,j,none⟩) c2 (xs.drop j) r ok w (Mc hR.out j (by omega)) (by rw [List.length_drop];omega) h
 rwa [List.length_drop,hl,<- hm] at h2
theorem AcG (hR:aa (Kd.R (Kd.int .u8) 5 w w0.heap.size (fun _=>True) (.slice (some ⟨g,0,none⟩) n c) xs)) (k j m c2:Nat) (r:Int) (hm:m=n - j) (hj:j<n) (hc:m<=c2) (h:mK.f k (xs.drop j)=some r):Calls Try.prog 90 #[.slice (some ⟨g,j,none⟩) m c2] w fun e w'=>e= .returned (.int .u16 r) /\ Below w.heap.size w w':=by
 have hl:=tV hR;have h2:=mK.calls k (some ⟨g,j,none⟩) c2 (xs.drop j) r w (Mc hR.out j (by omega)) (by rw [List.length_drop];omega) h
 rwa [List.length_drop,hl,<- hm] at h2
theorem sO (hR:aa (Kd.R (Kd.int .u8) 5 w w0.heap.size (fun _=>True) (.slice (some ⟨g,0,none⟩) n c) xs)) (hB:aa (Below w0.heap.size w0 w)) (j m c2:Nat) (v:Int) (hj:j+2<=n) (hm:2<=m):Calls Try.prog 89 #[.slice (some ⟨g,j,none⟩) m c2,.int .u16 v] w fun e w'=>e= .returned (.tuple #[]) /\ aa (Kd.R (Kd.int .u8) 5 w' w0.heap.size (fun _=>True) (.slice (some ⟨g,0,none⟩) n c) (ig xs j v)) /\ aa (Below w0.heap.size w0 w') /\ Zc w w':=by
 have hl:=tV hR;obtain ⟨g',cap,hv,hb,_,cells,hc⟩:=Kd.ue hR.out (by omega)
 obtain ⟨rfl,_,_⟩:g=g' /\ n=xs.length /\ c=cap:=by injection hv with h1 h2 h3;injection h1 with h1;injection h1 with h1;exact ⟨h1,h2,h3⟩
 refine (Ho g j m c c2 _ _ xs n v w hR.out hj hm).mono ?_;rintro e w' ⟨rfl,hr,ho⟩;exact ⟨rfl,⟨hr⟩,⟨j7.below ho hB.out hb⟩,fun g' t' cs f ht hx=>j7.blk ho hx hc ht⟩
end
def l6.FL.T:Bool×List (List Nat×List Nat):=(true,[([],[]),([],[]),([1],[1]),([0,2],[0,2]),([],[]),([4],[4]),([3,5],[3,5])])
theorem l6.FL.tab:gB .any (opsOf Try.f42 21)=l6.FL.T:=by kernel_rfl
theorem l6.FL.bits:cS l6.FL.T.2 [0,0,2,7,0,16,63]=true:=by kernel_rfl
def l6.FP.T:Bool×List (List Nat×List Nat):=(true,[([],[]),([],[]),([0,1],[0,1]),([],[]),([3],[3]),([2,4],[2,4])])
theorem l6.FP.tab:gB .any (opsOf Try.f42 22)=l6.FP.T:=by kernel_rfl
theorem l6.FP.bits:cS l6.FP.T.2 [0,0,3,0,8,31]=true:=by kernel_rfl
def l6.Tk.T:Bool×List (List Nat×List Nat):=(true,[([],[]),([],[]),([1],[1]),([0,2],[0,2]),([],[]),([4],[4]),([3,5],[3,5])])
theorem l6.Tk.tab:gB .any (opsOf Try.f42 23)=l6.Tk.T:=by kernel_rfl
theorem l6.Tk.bits:cS l6.Tk.T.2 [0,0,2,7,0,16,63]=true:=by kernel_rfl
def l6.GZ.T:Bool×List (List Nat×List Nat):=(true,[([],[]),([],[]),([1],[1]),([0,2],[0,2]),([],[]),([],[]),([4,5],[4,5]),([6],[6]),([3,7,7],[3,7])])
theorem l6.GZ.tab:gB .any (opsOf Try.f42 25)=l6.GZ.T:=by kernel_rfl
theorem l6.GZ.bits:cS l6.GZ.T.2 [0,0,2,7,0,0,48,112,255]=true:=by kernel_rfl
theorem yT.via (k:Nat) (A:Option Addr) (c:Nat) (l:List Int) (r:LK) (si ps di pd:Int) (rb:List Int) (re:Int) (w:World) (hC:Kd.C (Kd.int .u8) w A l.length l) (hL:l.length<=c) (Y4:∀ w2:World,Kd.C (Kd.int .u8) w2 A l.length l ->Calls Try.prog 69 #[.slice A l.length c] w2 fun e w'=>r.Post w2.heap.size w2 e w')
    (hg:r.e=0 ->¬ r.qD.length=0 ->∃ (x:List Int) (hd y:Nat),fQ.f l=some (x,(hd:Int)) /\ bO.f k (x.drop (hd+8))=some ((y:Int),true) /\ 20<=y /\ hd+8+y+8<=x.length /\ x.length<=100000 /\ 20<=hd) (h:Me k r l si ps di pd=some (rb,re)):
    Calls Try.prog 42 #[.slice A l.length c,.agg #[.int .u32 si,.int .u16 ps],.agg #[.int .u32 di,.int .u16 pd]] w fun e w'=>∃ vr:Value,e= .returned (.tuple #[vr,.int .i64 re]) /\ Kd.R (Kd.int .u8) 5 w' w.heap.size (fun _=>True) vr rb /\ Below w.heap.size w w':=by
  have mM:=Try.underlying65;have iW:=Try.underlying73;have mY:=Try.underlying76;unfold Me at h
  obtain ⟨fa,ft,pr,fi,fl,cr,s,d,fo,fb,fx,sp,dp,ff,qD,e_⟩:=r;have HB:=gI w;have HC:=aa.mk hC;have HL:=aa.mk hL;have HP:=aa.mk Y4;have HF:=aa.mk h;have HG:=aa.mk hg;have iM:aa ((Try.prog.info? 65).map (·.size)=some 2):=⟨by kernel_rfl⟩
  have eN:aa ((Try.prog.info? 73).map (·.size)=some 10):=⟨by kernel_rfl⟩
  have iF:aa ((Try.prog.info? 76).map (·.size)=some 7):=⟨by kernel_rfl⟩
  clear hC hL Y4 h hg
  go_enter Try.func42,Try.ntmps42
  go_upto_region 1 with (first|((with_reducible refine aA (N:=4) rfl ?_);refine aC ?fT (N:=4) ?iB (cs:= #[.int .u32 si,.int .u16 ps]) (t:=65) ?eY ?_;(case iB=>rfl);(case fT=>rfl);(case eY=>first|(go_simp;done)|(go_simp;rfl));intro gs bV w1 bw cB;have G2:=aa.mk (show w.heap.size<=gs by rw [bV];exact af HB.out);have cT:=aa.mk bw;have ai:=cB;replace HB:=mB HB ai;clear ai;clear bV bw cB)|((with_reducible refine aA (N:=5) rfl ?_);refine aC ?fT (N:=5) ?iB (cs:= #[.int .u32 di,.int .u16 pd]) (t:=65) ?eY ?_;(case iB=>rfl);(case fT=>rfl);(case eY=>first|(go_simp;done)|(go_simp;rfl));intro gd bV w2 bw cB;have Fb:=aa.mk (show w.heap.size<=gd by rw [bV];exact af HB.out);have cL:=aa.mk bw;have jA:aa (gs≠gd):=⟨by rw [bV];exact (cW cT).out⟩;have ai:=cB;replace HB:=mB HB ai;replace cT:=mX cT ai;clear ai;clear bV bw cB))
  go_wp2_with fail
  refine (HP.out _ (Kd.aW HC.out HB.out)).mono ?_;rintro ev w3 hpost;obtain ⟨vo,vb,vx,vi,rfl,ho,qd,hx,hi,hb⟩:=hpost;dsimp only at ho qd hx hi
  obtain ⟨Ao,co,rfl,_,_⟩:=Kd.cj ho;obtain ⟨Ab,cb,rfl,_,_⟩:=Kd.cj qd;obtain ⟨Ai,ci,rfl,_,_⟩:=Kd.cj hi;clear ho qd hi hx;have ai:=hb;replace HB:=mB HB ai;replace cT:=mX cT ai;replace cL:=mX cL ai;clear ai;clear hb HP
  (try dsimp only)
  go_upto_region 2 with (first|((with_reducible refine aA (N:=8) rfl ?_);refine aC ?fT (N:=8) ?iB (cs:=jL) (t:=73) ?eY ?_;(case iB=>rfl);(case fT=>rfl);(case eY=>first|(go_simp;done)|(go_simp;rfl));intro gp bV w4 bw cB;have lV:=aa.mk (show w.heap.size<=gp by rw [bV];exact af HB.out);have aZ:=aa.mk bw;have ai:=cB;replace HB:=mB HB ai;replace cT:=mX cT ai;replace cL:=mX cL ai;clear ai;clear bV bw cB)|((with_reducible refine aA (N:=10) rfl ?_);refine aC ?fT (N:=10) ?iB (cs:=lN) (t:=76) ?eY ?_;(case iB=>rfl);(case fT=>rfl);(case eY=>first|(go_simp;done)|(go_simp;rfl));intro gf bV w5 bw cB;have mO:=aa.mk (show w.heap.size<=gf by rw [bV];exact af HB.out);have bS:=aa.mk bw;have ai:=cB;replace HB:=mB HB ai;replace cT:=mX cT ai;replace cL:=mX cL ai;replace aZ:=mX aZ ai;clear ai;clear bV bw cB)|((refine dh rfl rfl rfl rfl rfl aZ.out eN.out rfl (by simp [Value.oneCell']) ?_);intro w6 hs_ ag;replace cT:=oX ag cT aZ (by decide);replace cL:=oX ag cL aZ (by decide);replace bS:=oX ag bS aZ (by decide);replace HB:=oB ag HB lV;clear ag;replace aZ:=aa.mk hs_;clear hs_)|((refine dh rfl rfl rfl rfl rfl bS.out iF.out rfl (by simp [Value.oneCell']) ?_);intro w7 hs_ ag;replace cT:=oX ag cT bS (by decide);replace cL:=oX ag cL bS (by decide);replace aZ:=oX ag aZ bS (by decide);replace HB:=oB ag HB mO;clear ag;replace bS:=aa.mk hs_;clear hs_))
  clear aZ;clear lV;have H:=HF.out;clear HF
  (try dsimp only at H)
  by_cases ce:e_=0
  rotate_left
  · have Ad:(e_==0)=false:=fq ce
    have G1:(e_ !=0)=true:=bne_iff_ne.2 ce;rw [av ce] at H
    have BL:=aa.mk ce;clear ce;clear HG;simp only [Option.some.injEq,Prod.mk.injEq] at H
    obtain ⟨rfl,rfl⟩:=H
    (try dsimp only)
    go_wp2
    (try simp only [Exit.inBlock,Exit.then])
    go_ret2
    exact ⟨_,rfl,Kd.bX _ _ _ _ _,HB.out⟩
  have Ad:(e_==0)=true:=fF ce
  have G1:(e_ !=0)=false:=by rw [bne,Ad];rfl
  rw [aq ce] at H
  have BL:=aa.mk ce;clear ce;obtain ⟨⟨x,hd⟩,hx,H⟩:=bR H;dsimp only at H
  have HH:=aa.mk H;clear H;have HOW:=aa.mk hx;clear hx
  (try dsimp only)
  go_wp2_with fail
  refine (fQ.calls A c l x hd _ (Kd.aW HC.out HB.out) HL.out HOW.out).mono ?_;rintro ev w8 ⟨vx,rfl,ho,hb⟩;have eB:=aa.mk (Kd.bP ho (af HB.out));clear ho;obtain ⟨Ax,cx,rfl,_,_⟩:=Kd.cj eB.out;have ai:=hb;replace HB:=mB HB ai;replace cT:=mX cT ai;replace cL:=mX cL ai;replace bS:=mX bS ai;clear ai;clear hb
  (try dsimp only)
  have Th:=cz bS.out 6 rfl;have H:=HH.out;clear HH
  by_cases ni:qD.length=0
  · rw [aq ni] at H
    clear HG HOW;have Qv:((qD.length:Int)==0)=true:=fF (by omega);have Qw:(qD.length==0)=true:=fF (by omega);have ni3:(qD.length=0)=True:=eq_true (by omega);simp only [Option.some.injEq,Prod.mk.injEq] at H
    obtain ⟨rfl,rfl⟩:=H
    (try dsimp only)
    go_wp2
    (try simp only [Exit.inBlock,Exit.then])
    go_ret2
    exact ⟨_,rfl,Kd.bX _ _ _ _ _,HB.out⟩
  rw [av ni] at H
  have Qv:((qD.length:Int)==0)=false:=fq (by omega);have Qw:(qD.length==0)=false:=fq (by omega);have ni3:(qD.length=0)=False:=eq_false (by omega)
  go_upto_region 7 with (fail)
  clear Qv Qw ni3 Th;clear bS;clear mO;obtain ⟨x',hd',y,e1,e2,e3,e4,e5,e6⟩:=HG.out BL.out ni;clear HG
  obtain ⟨rfl,rfl⟩:x=x' /\ hd=(hd':Int):=by
    have h:=HOW.out.symm.trans e1
    injection h with h
    injection h with h1 h2
    exact ⟨h1,h2⟩
  clear HOW e1;rw [Int.toNat_natCast] at H
  obtain ⟨g,c',hv,hgb,_,_⟩:=Kd.ue eB.out (show 0<x.length by omega)
  obtain ⟨rfl,rfl⟩:Ax=some ⟨g,0,none⟩ /\ cx=c':=by injection hv with h1 h2 h3;exact ⟨h1,h3⟩
  clear hv hgb;have hcap:=(Kd.ay eB.out).2.1;obtain ⟨n,hn⟩:∃ n,n=x.length:=⟨_,rfl⟩
  rw [<- hn] at eB e4 e5 hcap|-
  obtain ⟨a,ha⟩:∃ a,a=hd'+8:=⟨_,rfl⟩
  rw [<- ha] at e2 e4
  unfold Tj at H
  rw [<- ha,e2,bD] at H
  dsimp only at H
  rw [Int.toNat_natCast] at H
  obtain ⟨m,hm⟩:∃ m,m=n - a:=⟨_,rfl⟩
  obtain ⟨q,hq⟩:∃ q,q=cx - a:=⟨_,rfl⟩
  have HN:aa (x.length=n /\ a=hd'+8 /\ m=n - a /\ q=cx - a /\ a+y+8<=n /\ n<=cx /\ n<=100000 /\ 20<=hd' /\ 20<=y):=⟨⟨hn.symm,ha,hm,hq,e4,hcap,e5,e6,e3⟩⟩
  have HWI:=aa.mk e2;have HH:=aa.mk H;obtain ⟨i0,Iq,_,hsz,_⟩:=info_parts fY
  have ApL:∀ W:World,(Instr.slice 23 (.slice (some ⟨g,0,none⟩) n cx) (some (.int .i64 (a:Int))) none none).run Try.prog W= .ok (.slice (some ⟨g,a,none⟩) m q) W:=by
    have h:=CU (P:=Try.prog) 23 5 .i64 Try.underlying23 Iq hsz g 0 n cx (a:Int) a rfl (by omega) (by omega)
    rwa [Nat.zero_add,<- hm,<- hq] at h
  have cut:∀ (j:Nat),j<m ->∀ W:World,(Instr.slice 23 (.slice (some ⟨g,a,none⟩) m q) (some (.int .i64 (j:Int))) none none).run Try.prog W= .ok (.slice (some ⟨g,a+j,none⟩) (m - j) (q - j)) W:=fun j hj=>CU (P:=Try.prog) 23 5 .i64 Try.underlying23 Iq hsz g a m q (j:Int) j rfl (by omega) (by omega)
  have CUT:=aa.mk cut
  have AhE:aa (∀ (j:Nat),j<n ->∀ W:World,(Instr.slice 23 (.slice (some ⟨g,0,none⟩) n cx) (some (.int .i64 (j:Int))) none none).run Try.prog W= .ok (.slice (some ⟨g,j,none⟩) (n - j) (cx - j)) W):=⟨fun j hj=>by
    have h:=CU (P:=Try.prog) 23 5 .i64 Try.underlying23 Iq hsz g 0 n cx (j:Int) j rfl (by omega) (by omega)
    rwa [Nat.zero_add] at h⟩
  have wa:wrap64 ((hd':Int)+8)=(a:Int):=by unfold wrap64;omega
  clear hn ha hm hq e2 e3 e4 e5 e6 hcap Iq hsz cut H
  (try dsimp only)
  go_wp2_with fail
  clear wa ApL;refine (Mf eB k a m q y true (by have:=HN.out;omega) (by have:=HN.out;omega) (by have:=HN.out;omega) HWI.out).mono ?_;rintro ev w9 ⟨rfl,hb⟩;have ai:=hb;replace HB:=mB HB ai;replace cT:=mX cT ai;replace cL:=mX cL ai;replace eB:=mR eB ai;clear ai;clear hb HWI
  (try dsimp only)
  have b9:w9.cell? ⟨g,a+9,none⟩=some (.int .u8 (rd x ((a+9:Nat):Int))):=(Kd.lg (0:Int) eB.out ((a+9:Nat):Int) (by omega) (by have:=HN.out;omega)).1;have b0:decide (9<(m:Int))=true:=bN (by have:=HN.out;omega);have b1:decide (9<m)=true:=bN (by have:=HN.out;omega);have b2:((m:Int)<=9)=False:=eq_false (by have:=HN.out;omega);have b3:(m<=9)=False:=eq_false (by have:=HN.out;omega);have b4:((9:Int)<(m:Int))=True:=eq_true (by have:=HN.out;omega);have b5:(9<m)=True:=eq_true (by have:=HN.out;omega);obtain ⟨v9,hv9⟩:∃ v9,v9=rd x ((a+9:Nat):Int):=⟨_,rfl⟩
  have H:=HH.out;clear HH;rw [<- hv9] at b9 H
  clear hv9;have Tm:=cz cT.out 0 rfl;have Cg:=cz cT.out 1 rfl;have Tn:=cz cL.out 0 rfl;have J1:=cz cL.out 1 rfl
  go_upto_region 10 with (fail)
  clear b9 b0 b1 b2 b3 b4 b5;have h3:(v9=1 /\ ¬ ps=pd) \/ (v9=1 /\ ps=pd) \/ ¬ v9=1:=by omega
  rcases h3 with ⟨c9,cp⟩|⟨c9,cp⟩|c9
  · have c91:(v9==1)=true:=fF c9;have c92:(v9 !=1)=false:=(by rw [bne,c91];rfl)
    have Zd:(ps==pd)=false:=fq cp;have cp2:(ps !=pd)=true:=bne_iff_ne.2 cp;rw [aq ⟨c9,cp⟩] at H
    clear c9 cp;simp only [Option.some.injEq,Prod.mk.injEq] at H
    obtain ⟨rfl,rfl⟩:=H
    (try dsimp only)
    go_wp2
    (try simp only [Exit.inBlock,Exit.then])
    go_ret2
    exact ⟨_,rfl,Kd.bX _ _ _ _ _,HB.out⟩
  all_goals first
    |(have c91:(v9==1)=true:=fF c9;have c92:(v9 !=1)=false:=(by rw [bne,c91];rfl);have Zd:(ps==pd)=true:=fF cp;have cp2:(ps !=pd)=false:=(by rw [bne,Zd];rfl);rw [av (fun h5=>h5.2 cp)] at H;have HV9:=aa.mk c9;clear c9 cp;go_upto_region 12 with (fail);clear c91 c92 Zd cp2)
    |(have c91:(v9==1)=false:=fq c9;have c92:(v9 !=1)=true:=bne_iff_ne.2 c9;rw [av (fun h5=>c9 h5.1)] at H;have HV9:=aa.mk c9;clear c9;go_upto_region 12 with (fail);clear c91 c92)
  all_goals
    clear Tm Cg Tn J1;obtain ⟨x0,hx0,H⟩:=bR H;obtain ⟨⟨xF,oF⟩,hL,H⟩:=bR H;dsimp only at H
    obtain ⟨sF,hs,H⟩:=bR H;simp only [Option.some.injEq,Prod.mk.injEq] at H
    obtain ⟨hrb,rfl⟩:=H;have HRB:=aa.mk hrb;clear hrb;have HX0:=aa.mk hx0;have Hp:=aa.mk hL;have HSS:=aa.mk hs;clear hx0 hL hs;have zB:∀ W:World,(Instr.slice 23 (.slice (some ⟨g,a,none⟩) m q) (some (.int .i64 10)) none none).run Try.prog W= .ok (.slice (some ⟨g,a+10,none⟩) (m - 10) (q - 10)) W:=CUT.out 10 (by have:=HN.out;omega)
    go_wp2_with fail
    clear zB;refine (NV eB (a+10) (m - 10) (q - 10) x0 (by have:=HN.out;omega) (by have:=HN.out;omega) (by have:=HN.out;omega) HX0.out).mono ?_;rintro ev w_ ⟨rfl,⟨nd,rfl⟩⟩;have ai:=dS (Below.refl w9.heap.size w9) nd;replace HB:=mB HB ai;replace cT:=mX cT ai;replace cL:=mX cL ai;replace eB:=mR eB ai;clear ai;generalize w9.drewN nd=ku at HB cT cL eB|-
    (try dsimp only)
    clear HX0;have Tm:=cz cT.out 0 rfl;have Cg:=cz cT.out 1 rfl;have Tn:=cz cL.out 0 rfl;have J1:=cz cL.out 1 rfl
    go_wp2_with ((with_reducible refine aA (N:=78) rfl ?_);refine Gm ?fT (cs:= #[.int .u16 (si / 65536 % 65536),.int .u16 (si % 65536),.int .u16 (di / 65536 % 65536),.int .u16 (di % 65536)]) (t:=45) (n:=4) ?eY ?_;(case fT=>rfl);(case eY=>first|(go_simp;done)|(go_simp;rfl));intro gl sn J3 hgl Ak;have rL:=aa.mk J3;clear J3 hgl;have ai:=Ak;replace HB:=mB HB ai;replace cT:=mX cT ai;replace cL:=mX cL ai;replace eB:=mR eB ai;clear ai;clear Ak)
    clear Tm Cg Tn J1
    go_loopg [18,80] 4 (fun kq v18 v80 w'=>∃ (j:Nat) (x_:Int) (o_:List Int),v18= .int .u16 x_ /\ v80= .int .i64 (j:Int) /\ aa (kq+j=4) /\ aa (Pw k a ((wI si di).drop j) j x_ o_=some (xF,oF)) /\ aa (Kd.R (Kd.int .u8) 5 w' w.heap.size (fun _=>True) (.slice (some ⟨g,0,none⟩) n cx) o_) /\ aa (w'.heap[gs]?=some (.cells #[.int .u32 si,.int .u16 ps] 65 (0,0))) /\ aa (w'.heap[gd]?=some (.cells #[.int .u32 di,.int .u16 pd] 65 (0,0))) /\ aa (w'.heap[gl]?=some (.cells #[.int .u16 (si / 65536 % 65536),.int .u16 (si % 65536),.int .u16 (di / 65536 % 65536),.int .u16 (di % 65536)] 45 (0,0))) /\ aa (Below w.heap.size w w'))
    case atStart=>exact ⟨0,x0,x,rfl,rfl,⟨rfl⟩,Hp,eB,cT,cL,rL,HB⟩
    clear eB cT cL rL HB Hp;obtain ⟨j,x_,o_,rfl,rfl,HK,Hp,eB,cT,cL,rL,HB⟩:=hrel
    by_cases c6:j<4
    · obtain ⟨wv,hcell,J4⟩:∃ wv,wr.cell? ⟨gl,j,none⟩=some (.int .u16 wv) /\ (wI si di).drop j=wv::(wI si di).drop (j+1):=by
        have h4:j=0 \/ j=1 \/ j=2 \/ j=3:=by omega
        rcases h4 with rfl|rfl|rfl|rfl
        · exact ⟨_,(aN rL.out 0).trans rfl,rfl⟩
        · exact ⟨_,(aN rL.out 1).trans rfl,rfl⟩
        · exact ⟨_,(aN rL.out 2).trans rfl,rfl⟩
        · exact ⟨_,(aN rL.out 3).trans rfl,rfl⟩
      have DV:=Hp.out;clear Hp;rw [J4,Pw] at DV
      obtain ⟨t_,ht,DV⟩:=bR DV;obtain ⟨xn,hxn,DV⟩:=bR DV;obtain ⟨J2,hJ2⟩:∃ J2,J2=2*j:=⟨_,rfl⟩
      obtain ⟨J,hJ⟩:∃ J,J=12+J2:=⟨_,rfl⟩
      rw [show a+12+2*j=a+J from by omega] at ht DV
      have Hp:=aa.mk DV;have HT:=aa.mk ht;have HU:=aa.mk hxn;have HJ:aa (j<4 /\ J=12+2*j):=⟨by omega,by omega⟩
      have w2:wrap64 (2*(j:Int))=(J2:Int):=by unfold wrap64;omega
      have nP:wrap64 (12+(J2:Int))=(J:Int):=by unfold wrap64;omega
      have cJ:=CUT.out J (by have:=HN.out;omega);have b0:decide ((j:Int)<4)=true:=bN (by omega);have b1:decide (j<4)=true:=bN c6;have b2:((4:Int)<=(j:Int))=False:=eq_false (by omega);have b3:(4<=j)=False:=eq_false (by omega);have b4:((j:Int)<4)=True:=eq_true (by omega);have b5:(j<4)=True:=eq_true c6;clear DV ht hxn J4 hJ hJ2 c6
      go_wp2_with fail
      clear hcell b0 b1 b2 b3 b4 b5;refine (NV eB (a+J) (m - J) (q - J) t_ (by have:=HN.out;have:=HJ.out;omega) (by have:=HN.out;have:=HJ.out;omega) (by have:=HN.out;have:=HJ.out;omega) HT.out).mono ?_;rintro ev w_ ⟨rfl,⟨nd,rfl⟩⟩;have ai:=dS (Below.refl wr.heap.size wr) nd;replace HB:=mB HB ai;replace eB:=mR eB ai;replace cT:=mX cT ai;replace cL:=mX cL ai;replace rL:=mX rL ai;clear ai;generalize wr.drewN nd=w1 at HB eB cT cL rL|-
      (try dsimp only)
      clear HT
      go_wp2_with fail
      refine (qv.calls k x_ t_ wv xn _ HU.out).mono ?_;rintro ev w_ ⟨rfl,⟨nd,rfl⟩⟩;have ai:=dS (Below.refl w1.heap.size w1) nd;replace HB:=mB HB ai;replace eB:=mR eB ai;replace cT:=mX cT ai;replace cL:=mX cL ai;replace rL:=mX rL ai;clear ai;generalize w1.drewN nd=w2 at HB eB cT cL rL|-
      (try dsimp only)
      clear HU
      go_wp2_with fail
      refine (sO eB HB (a+J) (m - J) (q - J) wv (by have:=HN.out;have:=HJ.out;omega) (by have:=HN.out;have:=HJ.out;omega)).mono ?_;rintro ev w3 ⟨rfl,eY,ai,mo⟩;replace eB:=eY;replace HB:=ai;replace cT:=aa.mk (mo _ _ _ _ (by decide) cT.out);replace cL:=aa.mk (mo _ _ _ _ (by decide) cL.out);replace rL:=aa.mk (mo _ _ _ _ (by decide) rL.out);clear eY ai mo
      (try dsimp only)
      clear w2 nP cJ;have w7:wrap64 ((j:Int)+1)=((j+1:Nat):Int):=by have:=HJ.out;unfold wrap64;omega
      go_wp2
      go_roundg (gk - 1)
      case measure=>clear w7;have:=HK.out;have:=HJ.out;omega
      case rel=>exact ⟨j+1,xn,ig o_ (a+J) wv,by first|rfl|(simp [w7];done),by first|rfl|(simp [w7];done)|(simp only [w7];rfl),⟨by clear w7;have:=HK.out;have:=HJ.out;omega⟩,Hp,eB,cT,cL,rL,HB⟩
    obtain rfl:j=4:=by have:=HK.out;omega
    have DV:=Hp.out;clear Hp
    have hF:xF=x_ /\ oF=o_:=by
      have h:some (x_,o_)=some (xF,oF):=DV;simp only [Option.some.injEq,Prod.mk.injEq] at h
      exact ⟨h.1.symm,h.2.symm⟩
    obtain ⟨rfl,rfl⟩:=hF;clear DV c6;have zB:∀ W:World,(Instr.slice 23 (.slice (some ⟨g,a,none⟩) m q) (some (.int .i64 10)) none none).run Try.prog W= .ok (.slice (some ⟨g,a+10,none⟩) (m - 10) (q - 10)) W:=CUT.out 10 (by have:=HN.out;omega)
    go_wp2_with fail
    clear zB rL;refine (sO eB HB (a+10) (m - 10) (q - 10) xF (by have:=HN.out;omega) (by have:=HN.out;omega)).mono ?_;rintro ev w1 ⟨rfl,eY,ai,mo⟩;replace eB:=eY;replace HB:=ai;replace cT:=aa.mk (mo _ _ _ _ (by decide) cT.out);replace cL:=aa.mk (mo _ _ _ _ (by decide) cL.out);clear eY ai mo
    (try dsimp only)
    obtain ⟨o6,J5⟩:∃ o6,o6=Ci v9 (ig oF (a+10) xF) a y ps pd:=⟨_,rfl⟩
    have hS:=HSS.out;have hR:=HRB.out;clear HSS HRB;rw [<- J5] at hS hR
    obtain ⟨h2,hh2⟩:∃ h2,h2=hd'+2:=⟨_,rfl⟩
    rw [<- hh2] at hS hR
    have HSS:=aa.mk hS;have HRB:=aa.mk hR;have HO6:=aa.mk J5;have HH2:=aa.mk hh2;clear J5 hS hR hh2
    first
      | (go_upto_region 21 with (fail)
         obtain ⟨Px,Wt⟩:∃ J_,J_=y+4:=⟨_,rfl⟩
         have HJ:=aa.mk Wt;clear Wt;have J6:=aa.mk (CUT.out Px (by have:=HN.out;have:=HJ.out;omega));have WJ:aa (wrap64 ((y:Int)+4)=(Px:Int)):=⟨by have:=HN.out;have:=HJ.out;unfold wrap64;omega⟩
         refine dB (n:=7) (S:=fun w'=>w'.cell? ⟨gs,1,none⟩=some (.int .u16 ps)) (ds:=[]) #[false,false,false,false,false,false,false] (by kernel_rfl) rfl rfl ((aN cT.out 1).trans rfl) (fun hHeld=> ?_);refine bF l6.FL.tab l6.FL.bits (fun ax eu=> ?_);have ai:=bf (Below.refl w1.heap.size w1);replace HB:=mB HB ai;replace eB:=mR eB ai;replace cT:=mX cT ai;replace cL:=mX cL ai;clear ai;generalize w1.drew=Qu at HB eB cT cL hHeld|-
         refine pz 0 107 ax ?_;refine pz 1 108 ax ?_;refine pv 2 109 (.int .i64 (Px:Int)) ax ?_ ?_
         · intro w'
           have z_:=WJ.out
           first|(go_simp;done)|(go_simp;rfl)|(go_simp;rw [z_];rfl)|(go_simp;simp only [gK];exact z_)
         refine nz 109 ?_;refine pv 3 110 (.slice (some ⟨g,a+Px,none⟩) (m - Px) (q - Px)) ax ?_ ?_
         · intro w'
           exact qw (vx:= .slice (some ⟨g,a,none⟩) m q) (vl:= .int .i64 (Px:Int)) Try.underlying23 (by rfl) (by rfl) (by rfl) (J6.out w')
         refine nz 110 ?_;refine pz 4 111 ax ?_;refine tz 5 112 ax eu hHeld ?_;refine oz 6 (some 113) ax (fun K hK=> ?_);refine i9 Try.func89 (by kernel_rfl) rfl #[.slice (some ⟨g,a+Px,none⟩) (m - Px) (q - Px),.int .u16 ps] (by rfl) rfl rfl (by first|rfl|(go_simp;done)|(go_simp;rfl)|(go_simp;decide)) ?_;refine (sO eB HB (a+Px) (m - Px) (q - Px) ps (by have:=HN.out;have:=HJ.out;omega) (by have:=HN.out;have:=HJ.out;omega)).mono ?_;rintro ev w23 ⟨rfl,eY,ai,mo⟩;replace eB:=eY;replace HB:=ai;replace cT:=aa.mk (mo _ _ _ _ (by decide) cT.out);replace cL:=aa.mk (mo _ _ _ _ (by decide) cL.out);clear eY ai mo;refine ⟨_,rfl, ?_⟩;refine hK.out _ _ ((aN cT.out 1).trans rfl) (fun hHeld=> ?_);clear hK K;refine nz 113 ?_;refine dz ax ?_;clear ax eu hHeld;clear J6 WJ
         have Wt:=HJ.out;subst Wt;clear HJ
         (try dsimp only)
         have J5:=HO6.out;rw [Ci,aq HV9.out] at J5
         have hR:=eB.out;rw [<- J5] at hR
         clear eB HO6 J5 cT cL HV9;have eB:=aa.mk hR;clear hR
         generalize w23=wz at eB HB|-)
      | (go_upto_region 22 with (fail)
         have HJ:=aa.mk (rfl:y=y);have J6:=aa.mk (CUT.out y (by have:=HN.out;have:=HJ.out;omega));refine dB (n:=6) (S:=fun w'=>w'.cell? ⟨gs,1,none⟩=some (.int .u16 ps)) (ds:=[]) #[false,false,false,false,false,false] (by kernel_rfl) rfl rfl ((aN cT.out 1).trans rfl) (fun hHeld=> ?_);refine bF l6.FP.tab l6.FP.bits (fun ax eu=> ?_);have ai:=bf (Below.refl w1.heap.size w1);replace HB:=mB HB ai;replace eB:=mR eB ai;replace cT:=mX cT ai;replace cL:=mX cL ai;clear ai;generalize w1.drew=SL at HB eB cT cL hHeld|-
         refine pz 0 114 ax ?_;refine pz 1 115 ax ?_;refine pv 2 116 (.slice (some ⟨g,a+y,none⟩) (m - y) (q - y)) ax ?_ ?_
         · intro w'
           exact qw (vx:= .slice (some ⟨g,a,none⟩) m q) (vl:= .int .i64 (y:Int)) Try.underlying23 (by rfl) (by rfl) (by rfl) (J6.out w')
         refine nz 116 ?_;refine pz 3 117 ax ?_;refine tz 4 118 ax eu hHeld ?_;refine oz 5 (some 119) ax (fun K hK=> ?_);refine i9 Try.func89 (by kernel_rfl) rfl #[.slice (some ⟨g,a+y,none⟩) (m - y) (q - y),.int .u16 ps] (by rfl) rfl rfl (by first|rfl|(go_simp;done)|(go_simp;rfl)|(go_simp;decide)) ?_;refine (sO eB HB (a+y) (m - y) (q - y) ps (by have:=HN.out;have:=HJ.out;omega) (by have:=HN.out;have:=HJ.out;omega)).mono ?_;rintro ev w43 ⟨rfl,eY,ai,mo⟩;replace eB:=eY;replace HB:=ai;replace cT:=aa.mk (mo _ _ _ _ (by decide) cT.out);replace cL:=aa.mk (mo _ _ _ _ (by decide) cL.out);clear eY ai mo;refine ⟨_,rfl, ?_⟩;refine hK.out _ _ ((aN cT.out 1).trans rfl) (fun hHeld=> ?_);clear hK K;refine nz 119 ?_;refine dz ax ?_;clear ax eu hHeld;clear J6;clear HJ
         (try dsimp only)
         go_upto_region 23 with (fail)
         obtain ⟨Py,Wt⟩:∃ J_,J_=y+2:=⟨_,rfl⟩
         have HJ:=aa.mk Wt;clear Wt;have J6:=aa.mk (CUT.out Py (by have:=HN.out;have:=HJ.out;omega));have WJ:aa (wrap64 ((y:Int)+2)=(Py:Int)):=⟨by have:=HN.out;have:=HJ.out;unfold wrap64;omega⟩
         refine dB (n:=7) (S:=fun w'=>w'.cell? ⟨gd,1,none⟩=some (.int .u16 pd)) (ds:=[]) #[false,false,false,false,false,false,false] (by kernel_rfl) rfl rfl ((aN cL.out 1).trans rfl) (fun hHeld=> ?_);refine bF l6.Tk.tab l6.Tk.bits (fun ax eu=> ?_);have ai:=bf (Below.refl w43.heap.size w43);replace HB:=mB HB ai;replace eB:=mR eB ai;replace cT:=mX cT ai;replace cL:=mX cL ai;clear ai;generalize w43.drew=L0 at HB eB cT cL hHeld|-
         refine pz 0 120 ax ?_;refine pz 1 121 ax ?_;refine pv 2 122 (.int .i64 (Py:Int)) ax ?_ ?_
         · intro w'
           have z_:=WJ.out
           first|(go_simp;done)|(go_simp;rfl)|(go_simp;rw [z_];rfl)|(go_simp;simp only [gK];exact z_)
         refine nz 122 ?_;refine pv 3 123 (.slice (some ⟨g,a+Py,none⟩) (m - Py) (q - Py)) ax ?_ ?_
         · intro w'
           exact qw (vx:= .slice (some ⟨g,a,none⟩) m q) (vl:= .int .i64 (Py:Int)) Try.underlying23 (by rfl) (by rfl) (by rfl) (J6.out w')
         refine nz 123 ?_;refine pz 4 124 ax ?_;refine tz 5 125 ax eu hHeld ?_;refine oz 6 (some 126) ax (fun K hK=> ?_);refine i9 Try.func89 (by kernel_rfl) rfl #[.slice (some ⟨g,a+Py,none⟩) (m - Py) (q - Py),.int .u16 pd] (by rfl) rfl rfl (by first|rfl|(go_simp;done)|(go_simp;rfl)|(go_simp;decide)) ?_;refine (sO eB HB (a+Py) (m - Py) (q - Py) pd (by have:=HN.out;have:=HJ.out;omega) (by have:=HN.out;have:=HJ.out;omega)).mono ?_;rintro ev w45 ⟨rfl,eY,ai,mo⟩;replace eB:=eY;replace HB:=ai;replace cT:=aa.mk (mo _ _ _ _ (by decide) cT.out);replace cL:=aa.mk (mo _ _ _ _ (by decide) cL.out);clear eY ai mo;refine ⟨_,rfl, ?_⟩;refine hK.out _ _ ((aN cL.out 1).trans rfl) (fun hHeld=> ?_);clear hK K;refine nz 126 ?_;refine dz ax ?_;clear ax eu hHeld;clear J6 WJ
         have Wt:=HJ.out;subst Wt;clear HJ
         (try dsimp only)
         have J5:=HO6.out;rw [Ci,av HV9.out] at J5
         have hR:=eB.out;rw [<- J5] at hR
         clear eB HO6 J5 cT cL HV9;have eB:=aa.mk hR;clear hR
         generalize w45=wz at eB HB|-)
    have wh:wrap64 ((hd':Int)+2)=(h2:Int):=by have:=HN.out;have:=HH2.out;unfold wrap64;omega
    have cR:=AhE.out h2 (by have:=HN.out;have:=HH2.out;omega)
    go_wp2_with fail
    have WH:=aa.mk wh;have CR:=aa.mk cR;have CH:=aa.mk (AhE.out hd' (by have:=HN.out;omega));clear wh cR;refine (sO eB HB (h2) (n - h2) (cx - h2) 0 (by have:=HN.out;have:=HH2.out;omega) (by have:=HN.out;have:=HH2.out;omega)).mono ?_;rintro ev w81 ⟨rfl,eY,ai,mo⟩;replace eB:=eY;replace HB:=ai;clear eY ai mo
    (try dsimp only)
    go_upto_region 25 with (fail)
    refine dB (n:=9) (S:=fun _=>True) (ds:=[]) #[false,false,false,false,false,false,false,false,false] (by kernel_rfl) rfl rfl trivial (fun hHeld=> ?_);refine bF l6.GZ.tab l6.GZ.bits (fun ax eu=> ?_);have ai:=bf (Below.refl w81.heap.size w81);replace HB:=mB HB ai;replace eB:=mR eB ai;clear ai;generalize w81.drew=w82 at HB eB hHeld|-
    refine pz 0 132 ax ?_;refine pz 1 133 ax ?_;refine pv 2 134 (.int .i64 (h2:Int)) ax ?_ ?_
    · intro w'
      have z_:=WH.out
      first|(go_simp;done)|(go_simp;rfl)|(go_simp;rw [z_];rfl)|(go_simp;simp only [gK];exact z_)
    refine nz 134 ?_;refine pv 3 135 (.slice (some ⟨g,h2,none⟩) (n - h2) (cx - h2)) ax ?_ ?_
    · intro w'
      exact qw (vx:= .slice (some ⟨g,0,none⟩) n cx) (vl:= .int .i64 (h2:Int)) Try.underlying23 (by rfl) (by rfl) (by rfl) (CR.out w')
    refine nz 135 ?_;refine pz 4 136 ax ?_;refine pz 5 137 ax ?_;refine pv 6 138 (.slice (some ⟨g,hd',none⟩) (n - hd') (cx - hd')) ax ?_ ?_
    · intro w'
      exact qw (vx:= .slice (some ⟨g,0,none⟩) n cx) (vl:= .int .i64 (hd':Int)) Try.underlying23 (by rfl) (by rfl) (by rfl) (CH.out w')
    refine nz 138 ?_;refine oz 7 (some 139) ax (fun K hK=> ?_);refine i9 Try.func90 (by kernel_rfl) rfl #[.slice (some ⟨g,hd',none⟩) (n - hd') (cx - hd')] (by rfl) rfl rfl (by first|rfl|(go_simp;done)|(go_simp;rfl)|(go_simp;decide)) ?_;refine (AcG eB k hd' (n - hd') (cx - hd') sF (by have:=HN.out;omega) (by have:=HN.out;omega) (by have:=HN.out;omega) HSS.out).mono ?_;rintro ev w83 ⟨rfl,hb⟩;have ai:=hb;replace HB:=mB HB ai;replace eB:=mR eB ai;clear ai;clear hb;refine ⟨_,rfl, ?_⟩;refine hK.out _ _ trivial (fun hHeld=> ?_);clear hK K;refine nz 139 ?_;refine oz 8 (some 140) ax (fun K hK=> ?_);refine i9 Try.func89 (by kernel_rfl) rfl #[.slice (some ⟨g,h2,none⟩) (n - h2) (cx - h2),.int .u16 sF] (by rfl) rfl rfl (by first|rfl|(go_simp;done)|(go_simp;rfl)|(go_simp;decide)) ?_
    refine (sO eB HB h2 (n - h2) (cx - h2) sF (by have:=HN.out;have:=HH2.out;omega) (by have:=HN.out;have:=HH2.out;omega)).mono ?_;rintro ev w84 ⟨rfl,eY,ai,mo⟩;replace eB:=eY;replace HB:=ai;clear eY ai mo;refine ⟨_,rfl, ?_⟩;refine hK.out _ _ trivial (fun hHeld=> ?_);clear hK K;refine nz 140 ?_;refine dz ax ?_;clear ax eu hHeld
    (try dsimp only)
    go_wp2
    (try simp only [Exit.inBlock,Exit.then])
    go_ret2
    have hR:=eB.out;rw [HRB.out] at hR
    exact ⟨_,rfl,hR,HB.out⟩
attribute [local go_sem] dI dJ eI eJ cO cP dK dL
def bp.f (l0:List Int) (a1:Int):Option (List Int):=(some (([(a1 / 256) % 256,(a1) % 256]:List Int):List Int)).bind fun Cj=>(if l0.length+Cj.length<140737488355328 then (some (l0++Cj)) else (none))
theorem bp.calls (Ck:Nat ->Prop) (vN:Value) (l0:List Int) (a1:Int) (r:List Int) (w0 w:World) (hB:Below w0.heap.size w0 w) (gC:Kd.R (Kd.int .u8) 5 w w0.heap.size Ck vN l0) (h:bp.f l0 a1=some r):
  Calls Try.prog 83 #[vN,.int .u16 a1] w fun e w'=>∃ oW:Value,e= .returned (oW) /\ Kd.R (Kd.int .u8) 5 w' w0.heap.size (fun k_=>(Ck k_ \/ w.heap.size<=k_)) oW r /\ Below w0.heap.size w0 w' /\ Kept w w' (fun k_=>Ck k_):=by
 have Mg:=aa.mk (show Kd.R (Kd.int .u8) 5 w w0.heap.size (fun k_=>(Ck k_ \/ w.heap.size<=k_)) vN l0 from Kd.dA gC (fun k_ hk=>(.inl hk)));have HK:=aa.mk (Kept.refl w (fun k_=>Ck k_));have HW0:=aa.mk hB.size;have HB:=aa.mk hB;clear hB;have H:((some (([(a1 / 256) % 256,(a1) % 256]:List Int):List Int)).bind fun Cj=>(if l0.length+Cj.length<140737488355328 then (some (l0++Cj)) else (none)))=some r:=h;clear h;obtain ⟨Cj,J7⟩:∃ y_:List Int,y_=(([(a1 / 256) % 256,(a1) % 256]:List Int)):=⟨_,rfl⟩
 replace H:(if l0.length+Cj.length<140737488355328 then (some (l0++Cj)) else (none))=some r:=by first|(rw [J7];with_reducible exact H)|(have kE:=(bD _ _).symm.trans H;rw [J7];with_reducible exact kE)|(have kE:=(bD _ _).symm.trans H;with_reducible exact kE)|with_reducible exact H|(rw [J7];exact H)|exact H
 have Ze:=aa.mk J7;clear J7
 by_cases c3:l0.length+Cj.length<140737488355328
 ·rw [aq c3] at H
  have AcI:=aa.mk c3;clear c3;obtain ⟨ApP,J8⟩:∃ y_:List Int,y_=(l0++Cj):=⟨_,rfl⟩
  replace H:(some ApP)=some r:=by first|(rw [J8];with_reducible exact H)|(have kE:=(bD _ _).symm.trans H;rw [J8];with_reducible exact kE)|(have kE:=(bD _ _).symm.trans H;with_reducible exact kE)|with_reducible exact H|(rw [J8];exact H)|exact H
  have AhJ:=aa.mk J8;clear J8;obtain rfl:=cN H
  go_enter Try.func83,Try.ntmps83
  go_wp2_with (first|((with_reducible refine aA (N:=11) rfl ?_);refine Kd.qh (Kd.int .u8) _ 5 ?hg (N:=11) ?hd (xs:=([(a1 / 256) % 256,(a1) % 256]:List Int)) (inner:=[.int .u8 ((a1 / 256) % 256),.int .u8 ((a1) % 256)]) (ok:=fun _=>True) (qW:=fun _=>True) ?hr ?hp (fun _ hk=>hk) trivial (Below.refl _ _) (Nat.le_refl _) (by simp) ?_;(case hd=>rfl);(case hg=>rfl);(case hr=>first|(go_simp;done)|(go_simp;simp only [IntKind.wrap_u8,IntKind.wrap_u16,IntKind.wrap_u32];done)|(go_simp;rfl));(case hp=>exact (cD.one (show Kd.M (Kd.int .u8) _ _ _ ((a1 / 256) % 256) [.int .u8 ((a1 / 256) % 256)] from rfl) (cD.one (show Kd.M (Kd.int .u8) _ _ _ ((a1) % 256) [.int .u8 ((a1) % 256)] from rfl) (cD.none _ _))));intro AwE w4 Pz hb fT iN;clear fT iN;(first|rw [<- Ze.out] at Pz|(simp only [Int.reduceToNat] at Pz;rw [<- Ze.out] at Pz));have aH:=aa.mk (Kd.mQ (Kd.rz Mg) (Kd.j3 Pz) hb);have aK:=aa.mk (Kd.bP (Kd.qZ (Kd.yX (M:=fun k_=>(Ck k_ \/ w.heap.size<=k_)) Pz (by first|exact HK.out.1|exact (show Kept w _ (fun k_=>Ck k_) from by repeat (first|(with_reducible first|exact HK.out|apply Kept.alloc|apply Kept.drewN|apply Kept.drew)|exact HK.out)).1) (fun k_ h_=> .inr h_)) (Kd.ox (Kd.rz Mg))) (af (bz HB)));have bt:=aa.mk (Kept.below (S:=(fun k_=>Ck k_)) (by repeat (first|(with_reducible first|exact HK.out|apply Kept.alloc|apply Kept.drewN|apply Kept.drew)|exact HK.out)) hb);have cC:=aa.mk (au (bz HB) hb);clear Mg;clear HK;clear HB;have Mg:=aH;have FQ:=aK;have HK:=bt;have HB:=cC;clear aH aK bt cC;clear hb Pz;obtain ⟨Ao7,co7,eo7⟩:=Kd.dn FQ.out;subst eo7)|((with_reducible refine fB (b:= .append) (xs:= #[.tmp 5,.tmp 11]) rfl ?_);at_builtin;refine Kd.gz (Kd.int .u8) (w0:=w0) w0.heap.size rfl (.tmp 5) (.tmp 11) 23 5 (.int .u8 0) 1 rfl Try.underlying23 fY rfl (by decide) (by omega) vN l0 Cj _ _ _ (fun k_=>(Ck k_ \/ w.heap.size<=k_) /\ some k_≠(.slice Ao7 Cj.length co7:Value).ownBlock) (fun _=>False) rfl rfl ?aO ?aR (fun _ _ h=>h) (fun _ h=>h.elim) ?aF ?aB ?aS ?aL ?_;(case aR=>repeat (first|exact (Kd.ay FQ.out).2.2|(with_reducible refine Kd.fH ?_ _)|(with_reducible refine Kd.fz ?_ _)|(with_reducible refine Kd.gQ ?_)));(case aB=>exact bz HB);(case aF=>exact (fun k_ hk=>⟨(.inr (Nat.le_trans (by first|exact HK.out.1|exact (show Kept w _ (fun k_=>Ck k_) from by repeat (first|(with_reducible first|exact HK.out|apply Kept.alloc|apply Kept.drewN|apply Kept.drew)|exact HK.out)).1) hk)),Kd.mG (Kd.ox (Kd.rz FQ)) k_ hk⟩));(case aO=>exact (Kd.rz Mg));(case aS=>exact (af (bz HB)));(case aL=>have:=AcI.out;omega);intro AwF w6 ho hb hg hat;rw [<- AhJ.out] at ho;have aH:=aa.mk (Kd.nS (ok:=(fun k_=>(Ck k_ \/ w.heap.size<=k_))) (by (with_reducible repeat (first|apply Kd.fg|apply Kd.eV|apply Kd.fj));exact Kd.dA FQ.out (fun _ hk=>⟨hk.1.1,hk.2⟩)) hg hat);have aK:=aa.mk (hb);have bt:=aa.mk (Kept.C8 (S:=(fun k_=>Ck k_)) hg (by repeat (first|(with_reducible first|exact HK.out|apply Kept.alloc|apply Kept.drewN|apply Kept.drew)|exact HK.out)) (fun k_ e_=>(Mg.out.1 k_ e_).1));have cC:=aa.mk (ho);clear FQ;clear HB;clear HK;clear Mg;have FQ:=aH;have HB:=aK;have HK:=bt;have AhL:=cC;clear aH aK bt cC;clear ho hb hg hat))
  go_ret
  exact ⟨_,by first|rfl|(simp [aj,ak]<;>rfl)|(simp [*,aj,ak]<;>rfl),by (with_reducible repeat (first|apply Kd.fg|apply Kd.eV|apply Kd.fj));exact Kd.dA AhL.out (fun _ hk=>hk.1),bz HB,by repeat (first|(with_reducible first|exact HK.out|apply Kept.alloc|apply Kept.drewN|apply Kept.drew)|exact HK.out)⟩
 rw [av c3] at H
 cases H
def dM.f (l0:List Int) (a1:Int):Option (List Int):=(some (([(a1 / 16777216) % 256,(a1 / 65536) % 256,(a1 / 256) % 256,(a1) % 256]:List Int):List Int)).bind fun Cl=>(if l0.length+Cl.length<140737488355328 then (some (l0++Cl)) else (none))
theorem dM.calls (Ck:Nat ->Prop) (vN:Value) (l0:List Int) (a1:Int) (r:List Int) (w0 w:World) (hB:Below w0.heap.size w0 w) (gC:Kd.R (Kd.int .u8) 5 w w0.heap.size Ck vN l0) (h:dM.f l0 a1=some r):
  Calls Try.prog 84 #[vN,.int .u32 a1] w fun e w'=>∃ oW:Value,e= .returned (oW) /\ Kd.R (Kd.int .u8) 5 w' w0.heap.size (fun k_=>(Ck k_ \/ w.heap.size<=k_)) oW r /\ Below w0.heap.size w0 w' /\ Kept w w' (fun k_=>Ck k_):=by
 have Mg:=aa.mk (show Kd.R (Kd.int .u8) 5 w w0.heap.size (fun k_=>(Ck k_ \/ w.heap.size<=k_)) vN l0 from Kd.dA gC (fun k_ hk=>(.inl hk)));have HK:=aa.mk (Kept.refl w (fun k_=>Ck k_));have HW0:=aa.mk hB.size;have HB:=aa.mk hB;clear hB;have H:((some (([(a1 / 16777216) % 256,(a1 / 65536) % 256,(a1 / 256) % 256,(a1) % 256]:List Int):List Int)).bind fun Cl=>(if l0.length+Cl.length<140737488355328 then (some (l0++Cl)) else (none)))=some r:=h;clear h;obtain ⟨Cl,J9⟩:∃ y_:List Int,y_=(([(a1 / 16777216) % 256,(a1 / 65536) % 256,(a1 / 256) % 256,(a1) % 256]:List Int)):=⟨_,rfl⟩
 replace H:(if l0.length+Cl.length<140737488355328 then (some (l0++Cl)) else (none))=some r:=by first|(rw [J9];with_reducible exact H)|(have kE:=(bD _ _).symm.trans H;rw [J9];with_reducible exact kE)|(have kE:=(bD _ _).symm.trans H;with_reducible exact kE)|with_reducible exact H|(rw [J9];exact H)|exact H
 have Zf:=aa.mk J9;clear J9
 by_cases c3:l0.length+Cl.length<140737488355328
 ·rw [aq c3] at H
  have AcI:=aa.mk c3;clear c3;obtain ⟨ApQ,Ka⟩:∃ y_:List Int,y_=(l0++Cl):=⟨_,rfl⟩
  replace H:(some ApQ)=some r:=by first|(rw [Ka];with_reducible exact H)|(have kE:=(bD _ _).symm.trans H;rw [Ka];with_reducible exact kE)|(have kE:=(bD _ _).symm.trans H;with_reducible exact kE)|with_reducible exact H|(rw [Ka];exact H)|exact H
  have AhM:=aa.mk Ka;clear Ka;obtain rfl:=cN H
  go_enter Try.func84,Try.ntmps84
  go_wp2_with (first|((with_reducible refine aA (N:=17) rfl ?_);refine Kd.qh (Kd.int .u8) _ 5 ?hg (N:=17) ?hd (xs:=([(a1 / 16777216) % 256,(a1 / 65536) % 256,(a1 / 256) % 256,(a1) % 256]:List Int)) (inner:=[.int .u8 ((a1 / 16777216) % 256),.int .u8 ((a1 / 65536) % 256),.int .u8 ((a1 / 256) % 256),.int .u8 ((a1) % 256)]) (ok:=fun _=>True) (qW:=fun _=>True) ?hr ?hp (fun _ hk=>hk) trivial (Below.refl _ _) (Nat.le_refl _) (by simp) ?_;(case hd=>rfl);(case hg=>rfl);(case hr=>first|(go_simp;done)|(go_simp;simp only [IntKind.wrap_u8,IntKind.wrap_u16,IntKind.wrap_u32];done)|(go_simp;rfl));(case hp=>exact (cD.one (show Kd.M (Kd.int .u8) _ _ _ ((a1 / 16777216) % 256) [.int .u8 ((a1 / 16777216) % 256)] from rfl) (cD.one (show Kd.M (Kd.int .u8) _ _ _ ((a1 / 65536) % 256) [.int .u8 ((a1 / 65536) % 256)] from rfl) (cD.one (show Kd.M (Kd.int .u8) _ _ _ ((a1 / 256) % 256) [.int .u8 ((a1 / 256) % 256)] from rfl) (cD.one (show Kd.M (Kd.int .u8) _ _ _ ((a1) % 256) [.int .u8 ((a1) % 256)] from rfl) (cD.none _ _))))));intro AwG w4 Pz hb fT iN;clear fT iN;(first|rw [<- Zf.out] at Pz|(simp only [Int.reduceToNat] at Pz;rw [<- Zf.out] at Pz));have aH:=aa.mk (Kd.mQ (Kd.rz Mg) (Kd.j3 Pz) hb);have aK:=aa.mk (Kd.bP (Kd.qZ (Kd.yX (M:=fun k_=>(Ck k_ \/ w.heap.size<=k_)) Pz (by first|exact HK.out.1|exact (show Kept w _ (fun k_=>Ck k_) from by repeat (first|(with_reducible first|exact HK.out|apply Kept.alloc|apply Kept.drewN|apply Kept.drew)|exact HK.out)).1) (fun k_ h_=> .inr h_)) (Kd.ox (Kd.rz Mg))) (af (bz HB)));have bt:=aa.mk (Kept.below (S:=(fun k_=>Ck k_)) (by repeat (first|(with_reducible first|exact HK.out|apply Kept.alloc|apply Kept.drewN|apply Kept.drew)|exact HK.out)) hb);have cC:=aa.mk (au (bz HB) hb);clear Mg;clear HK;clear HB;have Mg:=aH;have FR:=aK;have HK:=bt;have HB:=cC;clear aH aK bt cC;clear hb Pz;obtain ⟨Ao7,co7,eo7⟩:=Kd.dn FR.out;subst eo7)|((with_reducible refine fB (b:= .append) (xs:= #[.tmp 5,.tmp 17]) rfl ?_);at_builtin;refine Kd.gz (Kd.int .u8) (w0:=w0) w0.heap.size rfl (.tmp 5) (.tmp 17) 23 5 (.int .u8 0) 1 rfl Try.underlying23 fY rfl (by decide) (by omega) vN l0 Cl _ _ _ (fun k_=>(Ck k_ \/ w.heap.size<=k_) /\ some k_≠(.slice Ao7 Cl.length co7:Value).ownBlock) (fun _=>False) rfl rfl ?aO ?aR (fun _ _ h=>h) (fun _ h=>h.elim) ?aF ?aB ?aS ?aL ?_;(case aR=>repeat (first|exact (Kd.ay FR.out).2.2|(with_reducible refine Kd.fH ?_ _)|(with_reducible refine Kd.fz ?_ _)|(with_reducible refine Kd.gQ ?_)));(case aB=>exact bz HB);(case aF=>exact (fun k_ hk=>⟨(.inr (Nat.le_trans (by first|exact HK.out.1|exact (show Kept w _ (fun k_=>Ck k_) from by repeat (first|(with_reducible first|exact HK.out|apply Kept.alloc|apply Kept.drewN|apply Kept.drew)|exact HK.out)).1) hk)),Kd.mG (Kd.ox (Kd.rz FR)) k_ hk⟩));(case aO=>exact (Kd.rz Mg));(case aS=>exact (af (bz HB)));(case aL=>have:=AcI.out;omega);intro AwH w6 ho hb hg hat;rw [<- AhM.out] at ho;have aH:=aa.mk (Kd.nS (ok:=(fun k_=>(Ck k_ \/ w.heap.size<=k_))) (by (with_reducible repeat (first|apply Kd.fg|apply Kd.eV|apply Kd.fj));exact Kd.dA FR.out (fun _ hk=>⟨hk.1.1,hk.2⟩)) hg hat);have aK:=aa.mk (hb);have bt:=aa.mk (Kept.C8 (S:=(fun k_=>Ck k_)) hg (by repeat (first|(with_reducible first|exact HK.out|apply Kept.alloc|apply Kept.drewN|apply Kept.drew)|exact HK.out)) (fun k_ e_=>(Mg.out.1 k_ e_).1));have cC:=aa.mk (ho);clear FR;clear HB;clear HK;clear Mg;have FR:=aH;have HB:=aK;have HK:=bt;have AhN:=cC;clear aH aK bt cC;clear ho hb hg hat))
  go_ret
  exact ⟨_,by first|rfl|(simp [aj,ak]<;>rfl)|(simp [*,aj,ak]<;>rfl),by (with_reducible repeat (first|apply Kd.fg|apply Kd.eV|apply Kd.fj));exact Kd.dA AhN.out (fun _ hk=>hk.1),bz HB,by repeat (first|(with_reducible first|exact HK.out|apply Kept.alloc|apply Kept.drewN|apply Kept.drew)|exact HK.out)⟩
 rw [av c3] at H
 cases H
def bE.l0:Nat ->Int ->Option (Int)
 |0,_=>none
 |k+1,x0=>if (x0 / 65536)=0 then (some (IntKind.u16.wrap (x0))) else (bE.l0 k (((x0 / 65536)+(Go.bits .and .u32 x0 65535)) % 4294967296))
def bE.f (k:Nat) (a0:Int):Option (Int):=bE.l0 k a0
theorem bE.calls (k:Nat) (a0:Int) (r:Int) (w:World) (h:bE.f k a0=some r):
  Calls Try.prog 79 #[.int .u32 a0] w fun e w'=>e= .returned (.int .u16 r) /\ bB w w':=by
 have H:(bE.l0 k a0)=some r:=h;clear h;have H':=aa.mk H;clear H
 go_enter Try.func79,Try.ntmps79
 go_wp2
 go_loopg [0] k (fun kq v0 w'=>∃ (qq:Int),v0= .int .u32 qq /\ aa (bE.l0 kq qq=some r) /\ aa (kq<=k) /\ bB w w')
 case atStart=>exact ⟨(a0),(by first|rfl|(simp;done)|(simp [*];done)),H',⟨Nat.le_refl _⟩,by repeat (first|exact bB.refl _|apply bB.step)⟩
 clear H';obtain ⟨qq,rfl,HA,xR,⟨m1,rfl⟩⟩:=hrel
 cases gk with
 |zero=>exact absurd HA.out (by simp [bE.l0])
 |succ k1=>
  have H:=HA.out;clear HA;simp only [bE.l0] at H
  by_cases c2:(qq / 65536)=0
  ·rw [aq c2] at H
   have j4:((qq / 65536)==0)=true:=fF c2;have mq:((qq / 65536) !=0)=false:=kL c2;clear c2;obtain rfl:=cN H
   go_wp2
   go_ret
   exact ⟨by first|rfl|(simp;done)|(simp [*];done),by repeat (first|exact bB.refl _|apply bB.step)⟩
  rw [av c2] at H
  have j4:((qq / 65536)==0)=false:=fq c2;have mq:((qq / 65536) !=0)=true:=lf c2;have H':=aa.mk H;clear H
  go_wp2
  go_roundg k1
  case measure=>have:=xR.out;omega
  case rel=>exact ⟨(((qq / 65536)+(Go.bits .and .u32 qq 65535)) % 4294967296),(by first|rfl|(simp;done)|(simp [*];done)),H',⟨by have:=xR.out;omega⟩,by repeat (first|exact bB.refl _|apply bB.step)⟩
def eM.l0:Nat ->List Int ->List Int ->Int ->Option (List Int)
 |0,_,_,_=>none
 |k+1,x0,x3,x4=>if x4<(x0.length:Int) then (if 0<=x4 then (if (wrap64 (x4+1))<(x0.length:Int) then (if 0<=(wrap64 (x4+1)) then (if x3.length<70368744177664 then (eM.l0 k x0 (x3++[Go.bits .or .u16 (IntKind.u16.wrap ((IntKind.u16.wrap (rd x0 x4))*256)) (IntKind.u16.wrap (rd x0 (wrap64 (x4+1))))]) (wrap64 (x4+2))) else (none)) else (none)) else (if x3.length<70368744177664 then (eM.l0 k x0 (x3++[IntKind.u16.wrap ((IntKind.u16.wrap (rd x0 x4))*256)]) (wrap64 (x4+2))) else (none))) else (none)) else (some x3)
def eM.f (k:Nat) (l0:List Int):Option (List Int):=eM.l0 k l0 ([]:List Int) 0
theorem eM.calls (k:Nat) (A0:Option Addr) (c0:Nat) (l0:List Int) (r:List Int) (w:World) (hr0:Kd.C (Kd.int .u8) w A0 l0.length l0) (hc0:l0.length<=c0) (h:eM.f k l0=some r):
  Calls Try.prog 113 #[.slice A0 l0.length c0] w fun e w'=>∃ oW:Value,e= .returned (oW) /\ Kd.R (Kd.int .u16) 45 w' w.heap.size (fun _=>True) oW r /\ Below w.heap.size w w':=by
 have gj:=aa.mk hr0;have jx:=aa.mk hc0;clear hr0 hc0;have HB:=gI w;have H:(eM.l0 k l0 ([]:List Int) 0)=some r:=h;clear h;have H':=aa.mk H;clear H
 go_enter Try.func113,Try.ntmps113
 go_wp2
 go_loopg [3,4] k (fun kq v3 v4 w'=>∃ (nB:List Int) (pX:Int),v4= .int .i64 pX /\ aa (eM.l0 kq l0 nB pX=some r) /\ aa (kq<=k) /\ aa (Kd.R (Kd.int .u16) 45 w' w.heap.size (fun _=>True) v3 nB) /\ aa (Below w.heap.size w w'))
 case atStart=>exact ⟨(([]:List Int)),(0),(by first|rfl|(simp;done)|(simp [*];done)),H',⟨Nat.le_refl _⟩,⟨by first|exact Kd.bX _ _ _ _ _|exact Kd.jn _ _ _ _ _|exact Kd.jo _ _ _ _ _|exact Kd.jl _ _ _ _ _|exact Kd.jm _ _ _ _ _⟩,⟨bz HB⟩⟩
 clear H';obtain ⟨nB,pX,rfl,HA,xR,Dp,HB⟩:=hrel
 cases gk with
 |zero=>exact absurd HA.out (by simp [eM.l0])
 |succ k1=>
  have H:=HA.out;clear HA;simp only [eM.l0] at H
  by_cases c2:pX<(l0.length:Int)
  rotate_left
  ·rw [av c2] at H
   have j4:decide (pX<(l0.length:Int))=false:=gN c2;clear c2;obtain rfl:=cN H
   go_wp2
   go_ret
   exact ⟨_,by first|rfl|(simp [aj,ak]<;>rfl)|(simp [*,aj,ak]<;>rfl),by (with_reducible repeat (first|apply Kd.fg|apply Kd.eV|apply Kd.fj));exact Dp.out,bz HB⟩
  rw [aq c2] at H
  have j4:decide (pX<(l0.length:Int))=true:=bN c2;clear c2
  by_cases c3:0<=pX
  rotate_left
  ·rw [av c3] at H
   cases H
  rw [aq c3] at H
  have oJ:decide (0<=pX)=true:=bN c3;clear c3
  by_cases c4:(wrap64 (pX+1))<(l0.length:Int)
  ·rw [aq c4] at H
   have mw:decide ((wrap64 (pX+1))<(l0.length:Int))=true:=bN c4;clear c4;obtain ⟨wZ,zR⟩:∃ j_:Int,(wrap64 (pX+1))=j_:=⟨_,rfl⟩
   replace H:(if 0<=(wZ) then (if nB.length<70368744177664 then (eM.l0 k1 l0 (nB++[Go.bits .or .u16 (IntKind.u16.wrap ((IntKind.u16.wrap (rd l0 pX))*256)) (IntKind.u16.wrap (rd l0 (wZ)))]) (wrap64 (pX+2))) else (none)) else (none))=some r:=by first|(rw [zR] at H;exact H)|(simp only [zR] at H|-;exact H)
   (try rw [zR] at mw)
   have Yd:(IntKind.i64.wrap (pX+1))=wZ:=(gK _).trans zR
   by_cases c6:0<=(wZ)
   rotate_left
   ·rw [av c6] at H
    cases H
   rw [aq c6] at H
   have um:decide (0<=(wZ))=true:=bN c6;clear c6
   by_cases c7:nB.length<70368744177664
   ·rw [aq c7] at H
    have Gp:=aa.mk c7;clear c7;obtain ⟨ApR,Tp⟩:∃ y_:List Int,y_=(nB++[Go.bits .or .u16 (IntKind.u16.wrap ((IntKind.u16.wrap (rd l0 pX))*256)) (IntKind.u16.wrap (rd l0 (wZ)))]):=⟨_,rfl⟩
    rw [<- Tp] at H
    have AhO:=aa.mk Tp;clear Tp;have H':=aa.mk H;clear H;have Mh:0<=(pX:Int):=gA;have Mi:pX<(l0.length:Int):=gA;obtain ⟨Zg,AcJ,vO⟩:=Kd.dG gj.out pX Mh Mi
    cases AcJ
    replace vO:=(HB.out.cell (dF w _ vO)).trans vO;replace Mh:=eq_true Mh;replace Mi:=eq_true Mi;have AcK:0<=((wZ):Int):=gA;have AcL:(wZ)<(l0.length:Int):=gA;obtain ⟨AhP,ApS,Hq⟩:=Kd.dG gj.out (wZ) AcK AcL;obtain rfl:Zg=AhP:=(by injection ApS)
    replace Hq:=(HB.out.cell (dF w _ Hq)).trans Hq;replace AcK:=eq_true AcK;replace AcL:=eq_true AcL
    go_wp2_with (first|((with_reducible refine fB (b:= .append) (xs:= #[.tmp 31,.tmp 33]) rfl ?_);at_builtin;refine Kd.zF (Kd.int .u16) (w0:=w) w.heap.size rfl (.tmp 31) (.tmp 33) 22 45 (.int .u16 0) 2 rfl Try.underlying22 Gn rfl (by decide) (by omega) u3 nB (Go.bits .or .u16 (IntKind.u16.wrap ((IntKind.u16.wrap (rd l0 pX))*256)) (IntKind.u16.wrap (rd l0 (wZ)))) [.int .u16 (Go.bits .or .u16 (IntKind.u16.wrap ((IntKind.u16.wrap (rd l0 pX))*256)) (IntKind.u16.wrap (rd l0 (wZ))))] (fun _=>True) (fun _=>False) rfl rfl ?aP (fun _ hk=>hk.elim) ?aF ?aO ?aB ?aS ?aL ?_;(case aP=>exact rfl);(case aB=>exact bz HB);(case aF=>exact (fun _ _=>trivial));(case aO=>exact (Kd.rz Dp));(case aS=>exact (af (bz HB)));(case aL=>have:=Gp.out;omega);intro AwI w8 ho hb hg hat;rw [<- AhO.out] at ho;have aH:=aa.mk (hb);have aK:=aa.mk (ho);clear HB;clear Dp;have HB:=aH;have AhQ:=aK;clear aH aK;clear ho hb hg hat))
    go_roundg k1
    case measure=>have:=xR.out;omega
    case rel=>exact ⟨(ApR),(wrap64 (pX+2)),(by first|rfl|(simp;done)|(simp [*];done)),H',⟨by have:=xR.out;omega⟩,⟨Kd.rz AhQ⟩,⟨bz HB⟩⟩
   rw [av c7] at H
   cases H
  rw [av c4] at H
  have mw:decide ((wrap64 (pX+1))<(l0.length:Int))=false:=gN c4;clear c4
  by_cases c9:nB.length<70368744177664
  ·rw [aq c9] at H
   have Rz:=aa.mk c9;clear c9;obtain ⟨ApT,Tq⟩:∃ y_:List Int,y_=(nB++[IntKind.u16.wrap ((IntKind.u16.wrap (rd l0 pX))*256)]):=⟨_,rfl⟩
   rw [<- Tq] at H
   have AhR:=aa.mk Tq;clear Tq;have H':=aa.mk H;clear H;have Mh:0<=(pX:Int):=gA;have Mi:pX<(l0.length:Int):=gA;obtain ⟨Zg,AcJ,vO⟩:=Kd.dG gj.out pX Mh Mi
   cases AcJ
   replace vO:=(HB.out.cell (dF w _ vO)).trans vO;replace Mh:=eq_true Mh;replace Mi:=eq_true Mi
   go_wp2_with (first|((with_reducible refine fB (b:= .append) (xs:= #[.tmp 31,.tmp 33]) rfl ?_);at_builtin;refine Kd.zF (Kd.int .u16) (w0:=w) w.heap.size rfl (.tmp 31) (.tmp 33) 22 45 (.int .u16 0) 2 rfl Try.underlying22 Gn rfl (by decide) (by omega) u3 nB (IntKind.u16.wrap ((IntKind.u16.wrap (rd l0 pX))*256)) [.int .u16 (IntKind.u16.wrap ((IntKind.u16.wrap (rd l0 pX))*256))] (fun _=>True) (fun _=>False) rfl rfl ?aP (fun _ hk=>hk.elim) ?aF ?aO ?aB ?aS ?aL ?_;(case aP=>exact rfl);(case aB=>exact bz HB);(case aF=>exact (fun _ _=>trivial));(case aO=>exact (Kd.rz Dp));(case aS=>exact (af (bz HB)));(case aL=>have:=Rz.out;omega);intro AwJ ku ho hb hg hat;rw [<- AhR.out] at ho;have aH:=aa.mk (hb);have aK:=aa.mk (ho);clear HB;clear Dp;have HB:=aH;have AhS:=aK;clear aH aK;clear ho hb hg hat))
   go_roundg k1
   case measure=>have:=xR.out;omega
   case rel=>exact ⟨(ApT),(wrap64 (pX+2)),(by first|rfl|(simp;done)|(simp [*];done)),H',⟨by have:=xR.out;omega⟩,⟨Kd.rz AhS⟩,⟨bz HB⟩⟩
  rw [av c9] at H
  cases H
def bW.l0:Nat ->Int ->List Int ->Int ->Option (Int)
 |0,_,_,_=>none
 |k+1,x5,x6,x7=>if x7<(x6.length:Int) then (if 0<=x7 then (if (IntKind.u64.wrap (x5+(IntKind.u64.wrap (rd x6 x7))))>4294967295 then (bW.l0 k (IntKind.u64.wrap ((IntKind.u64.wrap ((IntKind.u64.wrap (x5+(IntKind.u64.wrap (rd x6 x7)))) - 4294967296))+1)) x6 (wrap64 (x7+1))) else (bW.l0 k (IntKind.u64.wrap (x5+(IntKind.u64.wrap (rd x6 x7)))) x6 (wrap64 (x7+1)))) else (none)) else (some ((x5) % 4294967296))
def bW.f (k:Nat) (a0:Int) (l1:List Int):Option (Int):=(eM.f k l1).bind fun xA=>(bW.l0 k (IntKind.u64.wrap (a0)) xA 0)
theorem bW.calls (k:Nat) (a0:Int) (A1:Option Addr) (c1:Nat) (l1:List Int) (r:Int) (w:World) (hr1:Kd.C (Kd.int .u8) w A1 l1.length l1) (hc1:l1.length<=c1) (h:bW.f k a0 l1=some r):
  Calls Try.prog 80 #[.int .u32 a0,.slice A1 l1.length c1] w fun e w'=>e= .returned (.int .u32 r) /\ Below w.heap.size w w':=by
 have HR1:=aa.mk hr1;have HC1:=aa.mk hc1;clear hr1 hc1;have HB:=gI w;have H:((eM.f k l1).bind fun xA=>(bW.l0 k (IntKind.u64.wrap (a0)) xA 0))=some r:=h;clear h;replace H:=dc H;obtain ⟨xA,wK,H⟩:=H
 (try dsimp -simprocs only at H)
 have A3:=aa.mk wK;clear wK;have H':=aa.mk H;clear H
 go_enter Try.func80,Try.ntmps80
 go_wp2_with (first|((with_reducible refine az (f:=113) rfl ?_);refine gL 11 Try.func113 #[.slice A1 l1.length c1] ?_;(with_reducible refine (eM.calls k _ _ l1 xA _ ?aE ?aG A3.out).mono ?_);(case aE=>repeat (first|exact HR1.out|(with_reducible refine Kd.fH ?_ _)|(with_reducible refine Kd.fz ?_ _)|(with_reducible refine Kd.gQ ?_)));(case aG=>exact HC1.out);rintro e w4 ⟨ApU,rfl,gC,hb⟩;refine ⟨_,rfl, ?_⟩;have aH:=aa.mk (Kd.bP gC (af (bz HB)));have aK:=aa.mk (au (bz HB) hb);clear HB;have AhT:=aH;have HB:=aK;clear aH aK;(try clear hb);(try clear hb2);(try clear hk);(try clear hi);(try clear gC)))
 go_loopg [5,7] k (fun kq v5 v7 w'=>∃ (Kb:Int) (qM:Int),v5= .int .u64 Kb /\ v7= .int .i64 qM /\ aa (bW.l0 kq Kb xA qM=some r) /\ aa (kq<=k) /\ aa (Kd.R (Kd.int .u16) 45 w' w.heap.size (fun _=>True) ApU xA) /\ aa (Below w.heap.size w w'))
 case atStart=>exact ⟨(IntKind.u64.wrap (a0)),(0),(by first|rfl|(simp;done)|(simp [*];done)),(by first|rfl|(simp;done)|(simp [*];done)),H',⟨Nat.le_refl _⟩,⟨Kd.rz AhT⟩,⟨bz HB⟩⟩
 clear H'
 try clear c1
 obtain ⟨Kb,qM,rfl,rfl,HA,xR,DG,HB⟩:=hrel
 cases gk with
 |zero=>exact absurd HA.out (by simp [bW.l0])
 |succ k1=>
  have H:=HA.out;clear HA;simp only [bW.l0] at H
  by_cases c5:qM<(xA.length:Int)
  rotate_left
  ·rw [av c5] at H
   have mJ:decide (qM<(xA.length:Int))=false:=gN c5;clear c5;obtain rfl:=cN H;obtain ⟨AwK,AwL,ApV⟩:=Kd.dn DG.out;subst ApV
   go_wp2
   go_ret
   exact ⟨by first|rfl|(simp [aj,ak]<;>rfl)|(simp [*,aj,ak]<;>rfl),bz HB⟩
  rw [aq c5] at H
  have mJ:decide (qM<(xA.length:Int))=true:=bN c5;clear c5
  by_cases c6:0<=qM
  rotate_left
  ·rw [av c6] at H
   cases H
  rw [aq c6] at H
  have um:decide (0<=qM)=true:=bN c6;clear c6
  by_cases c7:(IntKind.u64.wrap (Kb+(IntKind.u64.wrap (rd xA qM))))>4294967295
  ·rw [aq c7] at H
   have AV:decide (4294967295<(IntKind.u64.wrap (Kb+(IntKind.u64.wrap (rd xA qM)))))=true:=bN c7;clear c7;have H':=aa.mk H;clear H;obtain ⟨Ao8,co8,eo8⟩:=Kd.dn DG.out;subst eo8;have Mj:0<=(qM:Int):=gA;have Mk:qM<(xA.length:Int):=gA;obtain ⟨AhU,AcM,Wu⟩:=Kd.dG (Kd.ay DG.out).2.2 qM Mj Mk
   cases AcM
   replace Mj:=eq_true Mj;replace Mk:=eq_true Mk
   go_wp2
   go_roundg k1
   case measure=>have:=xR.out;omega
   case rel=>exact ⟨(IntKind.u64.wrap ((IntKind.u64.wrap ((IntKind.u64.wrap (Kb+(IntKind.u64.wrap (rd xA qM)))) - 4294967296))+1)),(wrap64 (qM+1)),(by first|rfl|(simp;done)|(simp [*];done)),(by first|rfl|(simp;done)|(simp [*];done)),H',⟨by have:=xR.out;omega⟩,⟨Kd.rz DG⟩,⟨bz HB⟩⟩
  rw [av c7] at H
  have AV:decide (4294967295<(IntKind.u64.wrap (Kb+(IntKind.u64.wrap (rd xA qM)))))=false:=gN c7;clear c7;have H':=aa.mk H;clear H;obtain ⟨Ao9,co9,eo9⟩:=Kd.dn DG.out;subst eo9;have Mj:0<=(qM:Int):=gA;have Mk:qM<(xA.length:Int):=gA;obtain ⟨AhU,AcM,Wu⟩:=Kd.dG (Kd.ay DG.out).2.2 qM Mj Mk
  cases AcM
  replace Mj:=eq_true Mj;replace Mk:=eq_true Mk
  go_wp2
  go_roundg k1
  case measure=>have:=xR.out;omega
  case rel=>exact ⟨(IntKind.u64.wrap (Kb+(IntKind.u64.wrap (rd xA qM)))),(wrap64 (qM+1)),(by first|rfl|(simp;done)|(simp [*];done)),(by first|rfl|(simp;done)|(simp [*];done)),H',⟨by have:=xR.out;omega⟩,⟨Kd.rz DG⟩,⟨bz HB⟩⟩
def iK.f (k:Nat) (l0:List Int):Option (Int):=(bW.f k 0 l0).bind fun Ml=>((bE.f k Ml).bind fun Ts=>(some (Go.bits .xor .u16 IntKind.u16.max Ts)))
theorem iK.calls (k:Nat) (A0:Option Addr) (c0:Nat) (l0:List Int) (r:Int) (w:World) (hr0:Kd.C (Kd.int .u8) w A0 l0.length l0) (hc0:l0.length<=c0) (h:iK.f k l0=some r):
  Calls Try.prog 85 #[.slice A0 l0.length c0] w fun e w'=>e= .returned (.int .u16 r) /\ Below w.heap.size w w':=by
 have zQ:IntKind.u16.signed=false:=rfl;have gj:=aa.mk hr0;have jx:=aa.mk hc0;clear hr0 hc0;have HB:=gI w;have H:((bW.f k 0 l0).bind fun Ml=>((bE.f k Ml).bind fun Ts=>(some (Go.bits .xor .u16 IntKind.u16.max Ts))))=some r:=h;clear h;replace H:=dc H;obtain ⟨Ml,uM,H⟩:=H
 (try dsimp -simprocs only at H)
 have A2:=aa.mk uM;clear uM;replace H:=dc H;obtain ⟨Ts,wK,H⟩:=H
 (try dsimp -simprocs only at H)
 have A3:=aa.mk wK;clear wK;obtain rfl:=cN H
 go_enter Try.func85,Try.ntmps85
 go_wp2_with (first|((with_reducible refine az (f:=80) rfl ?_);refine gL 4 Try.func80 #[.int .u32 0,.slice A0 l0.length c0] ?_;(with_reducible refine (bW.calls k 0 _ _ l0 Ml _ ?aE ?aG A2.out).mono ?_);(case aE=>repeat (first|exact gj.out|(with_reducible refine Kd.fH ?_ _)|(with_reducible refine Kd.fz ?_ _)|(with_reducible refine Kd.gQ ?_)));(case aG=>exact jx.out);rintro e w4 ⟨rfl,hb⟩;refine ⟨_,rfl, ?_⟩;have aH:=aa.mk (au (bz HB) hb);clear HB;have HB:=aH;clear aH;(try clear hb);(try clear hb2);(try clear hk);(try clear hi))|((with_reducible refine az (f:=79) rfl ?_);refine gL 5 Try.func79 #[.int .u32 Ml] ?_;(with_reducible refine (bE.calls k Ml Ts _ A3.out).mono ?_);rintro e w' ⟨rfl,⟨nd,rfl⟩⟩;refine ⟨_,rfl, ?_⟩))
 go_ret
 exact ⟨by first|rfl|(simp [aj,ak]<;>rfl)|(simp [*,aj,ak]<;>rfl),bz HB⟩
attribute [local go_sem] dI dJ eI eJ cO cP dK dL
def cl.f (aU:Int) (bh:Int) (bn:Int) (fR:List Int):Option (List Int×Int):=if (fR.length:Int)>65527 then (some (([]:List Int),23)) else ((bp.f ([]:List Int) aU).bind fun Hr=>((bp.f Hr bh).bind fun Hs=>((bp.f Hs (IntKind.u16.wrap (wrap64 (8+(fR.length:Int))))).bind fun Ht=>((bp.f Ht bn).bind fun Fe=>(if Fe.length+fR.length<140737488355328 then (some ((Fe++fR),0)) else (none))))))
def cl.T4:Bool×List (List Nat×List Nat):=(true,[([],[]),([],[]),([1],[1]),([2],[2]),([3],[3]),([4],[4]),([0,5],[0,5]),([],[]),([7],[7]),([6,8,6],[6,8]),([9,9,0,1,2,3,4,5,6,7,8,9],[0,9])])
def cl.B4:List Nat:=[0,0,2,6,14,30,63,0,128,511,1023]
theorem cl.V8:gB .any (opsOf Try.f48 4)=cl.T4:=by kernel_rfl
theorem cl.ND:cS cl.T4.2 cl.B4=true:=by kernel_rfl
theorem cl.calls (aU:Int) (bh:Int) (bn:Int) (qa:Option Addr) (qb:Nat) (fR:List Int) (r1:List Int) (r2:Int) (w:World) (xb:Kd.C (Kd.int .u8) w qa fR.length fR) (xd:fR.length<=qb) (h:cl.f aU bh bn fR=some (r1,r2)):
  Calls Try.prog 48 #[.agg #[.int .u16 aU,.int .u16 bh,.int .u16 bn,.slice qa fR.length qb]] w fun e w'=>∃ oW:Value,e= .returned (.tuple #[oW,.int .i64 r2]) /\ Kd.R (Kd.int .u8) 5 w' w.heap.size (fun _=>True) oW r1 /\ Below w.heap.size w w':=by
 have zO:=Try.underlying83;have FD:=aa.mk xb;have Nn:=aa.mk xd;clear xb xd;have HB:=gI w;have H:(if (fR.length:Int)>65527 then (some (([]:List Int),23)) else ((bp.f ([]:List Int) aU).bind fun Hr=>((bp.f Hr bh).bind fun Hs=>((bp.f Hs (IntKind.u16.wrap (wrap64 (8+(fR.length:Int))))).bind fun Ht=>((bp.f Ht bn).bind fun Fe=>(if Fe.length+fR.length<140737488355328 then (some ((Fe++fR),0)) else (none)))))))=some (r1,r2):=h;clear h
 by_cases c2:(fR.length:Int)>65527
 ·rw [aq c2] at H
  have j4:decide (65527<(fR.length:Int))=true:=bN c2;have mq:decide (65527<fR.length)=true:=bN (by omega);clear c2;simp only [Option.some.injEq,Prod.mk.injEq] at H
  obtain ⟨rfl,rfl⟩:=H
  go_enter Try.func48,Try.ntmps48
  go_wp2_with (first|((with_reducible refine aA (N:=1) rfl ?_);refine aC ?hg (N:=1) ?hd (cs:= #[.int .u16 aU,.int .u16 bh,.int .u16 bn,.slice qa fR.length qb]) (t:=83) ?hr ?_;(case hd=>rfl);(case hg=>rfl);(case hr=>first|(go_simp;done)|(go_simp;rfl));intro oE hg w3 bJ hb;have aH:=aa.mk (au (bz HB) hb);have aK:=aa.mk (bJ);have bt:=aa.mk ((by rw [hg];exact (af (bz HB)):w.heap.size<=oE));have cC:=aa.mk ((by rw [hg];exact (af (bz HB)):w.heap.size<=oE));clear HB;have HB:=aH;have fA:=aK;have AhV:=bt;have AhW:=cC;clear aH aK bt cC;clear hb bJ hg;have pK:w3.cell? ⟨oE,0,none⟩=some (.int .u16 aU):=cz fA.out 0 rfl;have pL:w3.cell? ⟨oE,1,none⟩=some (.int .u16 bh):=cz fA.out 1 rfl;have pM:w3.cell? ⟨oE,2,none⟩=some (.int .u16 bn):=cz fA.out 2 rfl;have pN:w3.cell? ⟨oE,3,none⟩=some (.slice qa fR.length qb):=cz fA.out 3 rfl;have pO:=ae fA.out 0;have pP:=ae fA.out 1;have pQ:=ae fA.out 2;have pR:=ae fA.out 3))
  go_ret2
  exact ⟨_,by first|rfl|(simp [aj,ak]<;>rfl)|(simp [*,aj,ak]<;>rfl),by first|exact Kd.bX _ _ _ _ _|exact Kd.jn _ _ _ _ _|exact Kd.jo _ _ _ _ _|exact Kd.jl _ _ _ _ _|exact Kd.jm _ _ _ _ _,bz HB⟩
 rw [av c2] at H
 have j4:decide (65527<(fR.length:Int))=false:=gN c2;have mq:decide (65527<fR.length)=false:=gN (by omega);clear c2;replace H:=dc H;obtain ⟨Hr,Dw,H⟩:=H
 (try dsimp -simprocs only at H)
 have A5:=aa.mk Dw;clear Dw;replace H:=dc H;obtain ⟨Hs,wD,H⟩:=H
 (try dsimp -simprocs only at H)
 have A6:=aa.mk wD;clear wD;replace H:=dc H;obtain ⟨Ht,BB,H⟩:=H
 (try dsimp -simprocs only at H)
 have A7:=aa.mk BB;clear BB;replace H:=dc H;obtain ⟨Fe,Ke,H⟩:=H
 (try dsimp -simprocs only at H)
 have A8:=aa.mk Ke;clear Ke
 by_cases c9:Fe.length+fR.length<140737488355328
 rotate_left
 ·rw [av c9] at H
  cases H
 rw [aq c9] at H
 have Rz:=aa.mk c9;clear c9;obtain ⟨AwO,Tt⟩:∃ y_:List Int,y_=(Fe++fR):=⟨_,rfl⟩
 rw [<- Tt] at H
 have AhX:=aa.mk Tt;clear Tt;simp only [Option.some.injEq,Prod.mk.injEq] at H
 obtain ⟨rfl,rfl⟩:=H
 go_enter Try.func48,Try.ntmps48
 try go_wp2_with (first|((with_reducible refine aA (N:=1) rfl ?_);refine aC ?hg (N:=1) ?hd (cs:= #[.int .u16 aU,.int .u16 bh,.int .u16 bn,.slice qa fR.length qb]) (t:=83) ?hr ?_;(case hd=>rfl);(case hg=>rfl);(case hr=>first|(go_simp;done)|(go_simp;rfl));intro oE hg ku bJ hb;have aH:=aa.mk (au (bz HB) hb);have aK:=aa.mk (bJ);have bt:=aa.mk ((by rw [hg];exact (af (bz HB)):w.heap.size<=oE));have cC:=aa.mk ((by rw [hg];exact (af (bz HB)):w.heap.size<=oE));clear HB;have HB:=aH;have fA:=aK;have AhV:=bt;have AhW:=cC;clear aH aK bt cC;clear hb bJ hg;have xT:ku.cell? ⟨oE,0,none⟩=some (.int .u16 aU):=cz fA.out 0 rfl;have xU:ku.cell? ⟨oE,1,none⟩=some (.int .u16 bh):=cz fA.out 1 rfl;have xV:ku.cell? ⟨oE,2,none⟩=some (.int .u16 bn):=cz fA.out 2 rfl;have xW:ku.cell? ⟨oE,3,none⟩=some (.slice qa fR.length qb):=cz fA.out 3 rfl;have xX:=ae fA.out 0;have xY:=ae fA.out 1;have xZ:=ae fA.out 2;have yc:=ae fA.out 3))
 have aH:=aa.mk (aJ fA.out);have aK:=aa.mk (bf HB.out);clear fA;clear HB;have fA:=aH;have HB:=aK;clear aH aK;refine dB (n:=7) (S:=fun w'=>w'.cell? ⟨oE,0,none⟩=some (.int .u16 aU) /\ w'.cell? ⟨oE,1,none⟩=some (.int .u16 bh) /\ w'.cell? ⟨oE,2,none⟩=some (.int .u16 bn) /\ w'.cell? ⟨oE,3,none⟩=some (.slice qa fR.length qb)) (ds:=[]) #[false,false,false,false,false,false,false] (by kernel_rfl) rfl rfl ⟨cz fA.out 0 rfl,cz fA.out 1 rfl,cz fA.out 2 rfl,cz fA.out 3 rfl⟩ (fun hHeld=> ?_);generalize ku.drew=nP at fA HB hHeld|-
 refine tg (i:=0) (N:=some 9) (v:= ?_) (a':= ?_) #[true,false,false,false,false,false,false] rfl rfl (by kernel_rfl) (fun _ _ _ h=>h) (Or.inl ⟨by rfl, ?_⟩) ?_ ?_
 rotate_left
 ·intro w'
  go_simp
  with_reducible rfl
 rotate_left
 ·simp only [pG]
  rfl
 refine tg (i:=3) (N:=some 12) (v:= ?_) (a':= ?_) #[true,false,false,true,false,false,false] rfl rfl (by kernel_rfl) (fun _ _ _ h=>h) (Or.inl ⟨by rfl, ?_⟩) ?_ ?_
 rotate_left
 ·intro w'
  go_simp
  with_reducible rfl
 rotate_left
 ·simp only [pG]
  rfl
 refine gF (i:=1) (N:=some 10) (v:= ?_) (a':= ?_) #[true,true,false,true,false,false,false] rfl rfl (by kernel_rfl) (fun _ _ _ h=>h) (Or.inl ⟨by rfl, ?_⟩) hHeld ?_ ?_
 rotate_left
 ·rintro w' ⟨s0,s1,s2,s3⟩
  go_simp
  with_reducible rfl
 rotate_left
 ·simp only [pG]
  rfl
 refine gF (i:=4) (N:=some 13) (v:= ?_) (a':= ?_) #[true,true,false,true,true,false,false] rfl rfl (by kernel_rfl) (fun _ _ _ h=>h) (Or.inl ⟨by rfl, ?_⟩) hHeld ?_ ?_
 rotate_left
 ·rintro w' ⟨s0,s1,s2,s3⟩
  go_simp
  with_reducible rfl
 rotate_left
 ·simp only [pG]
  rfl
 refine QL (i:=2) (N:=some 11) #[true,true,true,true,true,false,false] rfl rfl (by kernel_rfl) (by decide) (fun K hK=> ?_);refine gG Try.func83 #[.slice none 0 0,.int .u16 aU] ?_;refine (bp.calls (fun k_=>some k_=(.slice none 0 0:Value).ownBlock) (.slice none 0 0) ([]:List Int) aU Hr w _ ?aE ?aG A5.out).mono ?_
 (case aE=>exact bz HB)
 (case aG=>exact Kd.bX _ _ _ _ _)
 rintro e yD ⟨AwP,rfl,gC,hb,hkp⟩;refine ⟨_,rfl, ?_⟩;have aH:=aa.mk (ja (kz fA) hkp (fun hs_=>(fun e_=>by simp [Value.ownBlock] at e_) hs_));have aK:=aa.mk (Kd.dA (ok':=fun k_=>True) gC (fun k_ mo=>trivial));have bt:=aa.mk (hb);clear fA;clear HB;have fA:=aH;have NW:=aK;have HB:=bt;clear aH aK bt
 (try clear hb)
 (try clear hkp)
 (try clear gC)
 obtain ⟨AcN,AcO,AhY⟩:=Kd.dn NW.out
 (first|subst AhY|(injection AhY with mT ry mU;have rA:=mT.symm;have rB:=mU.symm;clear mT ry mU;subst rA;subst rB))
 refine hK.out _ _ ⟨cz fA.out 0 rfl,cz fA.out 1 rfl,cz fA.out 2 rfl,cz fA.out 3 rfl⟩ (fun hHeld=> ?_);clear hK K;refine nz 11 ?_;refine QL (i:=5) (N:=some 14) #[true,true,true,true,true,true,false] rfl rfl (by kernel_rfl) (by decide) (fun K hK=> ?_);refine gG Try.func83 #[.slice AcN Hr.length AcO,.int .u16 bh] ?_
 with_reducible refine (bp.calls (fun k_=>some k_=(.slice AcN Hr.length AcO:Value).ownBlock) (.slice AcN Hr.length AcO) Hr bh Hs w _ ?aE ?aG A6.out).mono ?_
 (case aE=>exact bz HB)
 (case aG=>exact Kd.kF rfl NW.out)
 rintro e BX ⟨AwQ,rfl,gC,hb,hkp⟩;refine ⟨_,rfl, ?_⟩;have aH:=aa.mk (ja (kz fA) hkp (fun hs_=>(fun e_=>(Kd.nk NW.out fA.out (by decide)) e_) hs_));have aK:=aa.mk (Kd.dA (ok':=fun k_=>True) gC (fun k_ mo=>trivial));have bt:=aa.mk (hb);clear fA;clear HB;clear NW;have fA:=aH;have BM:=aK;have HB:=bt;clear aH aK bt
 (try clear hb)
 (try clear hkp)
 (try clear gC)
 refine hK.out _ _ ⟨cz fA.out 0 rfl,cz fA.out 1 rfl,cz fA.out 2 rfl,cz fA.out 3 rfl⟩ (fun hHeld=> ?_);clear hK K;refine nz 14 ?_;refine tg (i:=6) (N:=some 4) (v:= ?_) (a':= ?_) #[true,true,true,true,true,true,true] rfl rfl (by kernel_rfl) (fun _ _ _ h=>h) (Or.inl ⟨by rfl, ?_⟩) ?_ ?_
 rotate_left
 ·intro w'
  go_simp
  with_reducible rfl
 rotate_left
 ·simp only [pG]
  rfl
 refine QM (by kernel_rfl) ?_
 try go_wp2
 have aH:=aa.mk (Kd.fj BM.out);have aK:=aa.mk (aJ fA.out);have bt:=aa.mk (bf HB.out);clear BM;clear fA;clear HB;have BM:=aH;have fA:=aK;have HB:=bt;clear aH aK bt;obtain ⟨AcP,AcQ,AhZ⟩:=Kd.dn BM.out
 (first|subst AhZ|(injection AhZ with mT ry mU;have rA:=mT.symm;have rB:=mU.symm;clear mT ry mU;subst rA;subst rB))
 refine dB (n:=11) (S:=fun w'=>w'.cell? ⟨oE,0,none⟩=some (.int .u16 aU) /\ w'.cell? ⟨oE,1,none⟩=some (.int .u16 bh) /\ w'.cell? ⟨oE,2,none⟩=some (.int .u16 bn) /\ w'.cell? ⟨oE,3,none⟩=some (.slice qa fR.length qb)) (ds:=[]) #[false,false,false,false,false,false,false,false,false,false,false] (by kernel_rfl) rfl rfl ⟨cz fA.out 0 rfl,cz fA.out 1 rfl,cz fA.out 2 rfl,cz fA.out 3 rfl⟩ (fun hHeld=> ?_);refine bF cl.V8 cl.ND (fun ax eu=> ?_);generalize BX.drew=qJ at BM fA HB hHeld|-
 refine pz 0 15 ax ?_;refine pz 1 16 ax ?_;refine pz 7 22 ax ?_;refine gF (i:=2) (N:=some 17) (v:= ?_) (a':= ?_) #[true,true,true,false,false,false,false,true,false,false,false] rfl rfl (dm ax.out eu.out (by kernel_rfl)) (fun _ _ _ h=>h) (Or.inl ⟨by rfl, ?_⟩) hHeld ?_ ?_
 rotate_left
 ·rintro w' ⟨s0,s1,s2,s3⟩
  go_simp
  with_reducible rfl
 rotate_left
 ·simp only [pG]
  rfl
 refine pz 3 18 ax ?_;refine pz 4 19 ax ?_;refine pz 5 20 ax ?_;refine gF (i:=8) (N:=some 23) (v:= ?_) (a':= ?_) #[true,true,true,true,true,true,false,true,true,false,false] rfl rfl (dm ax.out eu.out (by kernel_rfl)) (fun _ _ _ h=>h) (Or.inl ⟨by rfl, ?_⟩) hHeld ?_ ?_
 rotate_left
 ·rintro w' ⟨s0,s1,s2,s3⟩
  go_simp
  with_reducible rfl
 rotate_left
 ·simp only [pG]
  rfl
 refine oz 6 (some 21) ax (fun K hK=> ?_);refine gG Try.func83 #[.slice AcP Hs.length AcQ,.int .u16 (IntKind.u16.wrap (wrap64 (8+(fR.length:Int))))] ?_
 with_reducible refine (bp.calls (fun k_=>some k_=(.slice AcP Hs.length AcQ:Value).ownBlock) (.slice AcP Hs.length AcQ) Hs (IntKind.u16.wrap (wrap64 (8+(fR.length:Int)))) Ht w _ ?aE ?aG A7.out).mono ?_
 (case aE=>exact bz HB)
 (case aG=>exact Kd.kF rfl BM.out)
 rintro e Vb ⟨AwR,rfl,gC,hb,hkp⟩;refine ⟨_,rfl, ?_⟩;have aH:=aa.mk (ja (kz fA) hkp (fun hs_=>(fun e_=>(Kd.nk BM.out fA.out (by decide)) e_) hs_));have aK:=aa.mk (Kd.dA (ok':=fun k_=>True) gC (fun k_ mo=>trivial));have bt:=aa.mk (hb);clear fA;clear HB;clear BM;have fA:=aH;have NX:=aK;have HB:=bt;clear aH aK bt
 (try clear hb)
 (try clear hkp)
 (try clear gC)
 obtain ⟨O2,O3,Rv⟩:=Kd.dn NX.out
 (first|subst Rv|(injection Rv with mT ry mU;have rA:=mT.symm;have rB:=mU.symm;clear mT ry mU;subst rA;subst rB))
 refine hK.out _ _ ⟨cz fA.out 0 rfl,cz fA.out 1 rfl,cz fA.out 2 rfl,cz fA.out 3 rfl⟩ (fun hHeld=> ?_);clear hK K;refine nz 21 ?_;refine oz 9 (some 24) ax (fun K hK=> ?_);refine gG Try.func83 #[.slice O2 Ht.length O3,.int .u16 bn] ?_
 with_reducible refine (bp.calls (fun k_=>some k_=(.slice O2 Ht.length O3:Value).ownBlock) (.slice O2 Ht.length O3) Ht bn Fe w _ ?aE ?aG A8.out).mono ?_
 (case aE=>exact bz HB)
 (case aG=>exact Kd.kF rfl NX.out)
 rintro e w20 ⟨ApX,rfl,gC,hb,hkp⟩;refine ⟨_,rfl, ?_⟩;have aH:=aa.mk (ja (kz fA) hkp (fun hs_=>(fun e_=>(Kd.nk NX.out fA.out (by decide)) e_) hs_));have aK:=aa.mk (Kd.dA (ok':=fun k_=>True) gC (fun k_ mo=>trivial));have bt:=aa.mk (hb);clear fA;clear HB;clear NX;have fA:=aH;have Tu:=aK;have HB:=bt;clear aH aK bt
 (try clear hb)
 (try clear hkp)
 (try clear gC)
 refine hK.out _ _ ⟨cz fA.out 0 rfl,cz fA.out 1 rfl,cz fA.out 2 rfl,cz fA.out 3 rfl⟩ (fun hHeld=> ?_);clear hK K;refine nz 24 ?_;refine pz 10 4 ax ?_;refine dz ax ?_;have Ah0:=cs4 fA.out;have Ah1:=ae fA.out
 try go_wp2_with (first|((with_reducible refine fB (b:= .append) (xs:= #[.tmp 25,.tmp 27]) rfl ?_);at_builtin;refine Kd.gz (Kd.int .u8) (w0:=w) w.heap.size rfl (.tmp 25) (.tmp 27) 23 5 (.int .u8 0) 1 rfl Try.underlying23 fY rfl (by decide) (by omega) ApX Fe fR _ _ _ (fun _=>True) (fun _=>False) rfl rfl ?aO ?aR (fun _ _ h=>h) (fun _ h=>h.elim) ?aF ?aB ?aS ?aL ?_;(case aR=>exact Kd.aW FD.out (bz HB));(case aB=>exact bz HB);(case aF=>exact (fun _ _=>trivial));(case aO=>exact (Kd.rz Tu));(case aS=>exact (af (bz HB)));(case aL=>have:=Rz.out;omega);intro AwS Qu ho hb hg hat;rw [<- AhX.out] at ho;have aH:=aa.mk (gW (kz fA) hg (Kd.nk Tu.out fA.out (by decide)));have aK:=aa.mk (hb);have bt:=aa.mk (ho);clear fA;clear HB;clear Tu;have fA:=aH;have HB:=aK;have Ah2:=bt;clear aH aK bt;clear ho hb hg hat))
 go_ret2
 exact ⟨_,by first|rfl|(simp [aj,ak]<;>rfl)|(simp [*,aj,ak]<;>rfl),by (with_reducible repeat (first|apply Kd.fg|apply Kd.eV|apply Kd.fj));exact Ah2.out,bz HB⟩
attribute [local go_sem] dI dJ eI eJ cO cP dK dL
def cK.f (a0:Int) (a1:Int) (a2:Int) (a3:Int):Option (Int):=some (Go.bits .or .u32 (Go.bits .or .u32 (Go.bits .or .u32 ((((a0) % 4294967296)*16777216) % 4294967296) ((((a1) % 4294967296)*65536) % 4294967296)) ((((a2) % 4294967296)*256) % 4294967296)) ((a3) % 4294967296))
theorem cK.calls (a0:Int) (a1:Int) (a2:Int) (a3:Int) (r:Int) (w:World) (h:cK.f a0 a1 a2 a3=some r):
  Calls Try.prog 44 #[.int .u8 a0,.int .u8 a1,.int .u8 a2,.int .u8 a3] w fun e w'=>e= .returned (.int .u32 r) /\ bB w w':=by
 have H:(some (Go.bits .or .u32 (Go.bits .or .u32 (Go.bits .or .u32 ((((a0) % 4294967296)*16777216) % 4294967296) ((((a1) % 4294967296)*65536) % 4294967296)) ((((a2) % 4294967296)*256) % 4294967296)) ((a3) % 4294967296)))=some r:=h;clear h;obtain rfl:=cN H
 go_enter Try.func44,Try.ntmps44
 go_wp2
 go_ret
 exact ⟨by first|rfl|(simp;done)|(simp [*];done),by repeat (first|exact bB.refl _|apply bB.step)⟩
attribute [local go_sem] dI dJ eI eJ cO cP dK dL
def eC.f (k:Nat) (a0:Int) (a1:Int) (a2:Int) (a3:Int):Option (Int):=(bE.f k (((a0 / 65536)+(Go.bits .and .u32 a0 65535)+(a1 / 65536)+(Go.bits .and .u32 a1 65535)+(a2)+(Go.bits .and .u64 (IntKind.u64.wrap (a3)) 65535)) % 4294967296)).bind fun PA=>(some ((PA) % 4294967296))
theorem eC.calls (k:Nat) (a0:Int) (a1:Int) (a2:Int) (a3:Int) (r:Int) (w:World) (h:eC.f k a0 a1 a2 a3=some r):
  Calls Try.prog 82 #[.int .u32 a0,.int .u32 a1,.int .u8 a2,.int .i64 a3] w fun e w'=>e= .returned (.int .u32 r) /\ bB w w':=by
 have H:((bE.f k (((a0 / 65536)+(Go.bits .and .u32 a0 65535)+(a1 / 65536)+(Go.bits .and .u32 a1 65535)+(a2)+(Go.bits .and .u64 (IntKind.u64.wrap (a3)) 65535)) % 4294967296)).bind fun PA=>(some ((PA) % 4294967296)))=some r:=h;clear h;replace H:=dc H;obtain ⟨PA,Dw,H⟩:=H;replace H:(some ((PA) % 4294967296))=some r:=H;have A5:=aa.mk Dw;clear Dw;obtain rfl:=cN H
 go_enter Try.func82,Try.ntmps82
 go_wp2_with (first|((with_reducible refine az (f:=79) rfl ?_);refine gL 30 Try.func79 #[.int .u32 (((a0 / 65536)+(Go.bits .and .u32 a0 65535)+(a1 / 65536)+(Go.bits .and .u32 a1 65535)+(a2)+(Go.bits .and .u64 (IntKind.u64.wrap (a3)) 65535)) % 4294967296)] ?_;(with_reducible refine (bE.calls k (((a0 / 65536)+(Go.bits .and .u32 a0 65535)+(a1 / 65536)+(Go.bits .and .u32 a1 65535)+(a2)+(Go.bits .and .u64 (IntKind.u64.wrap (a3)) 65535)) % 4294967296) PA _ A5.out).mono ?_);rintro e w' ⟨rfl,⟨nd,rfl⟩⟩;refine ⟨_,rfl, ?_⟩))
 go_ret
 exact ⟨by first|rfl|(simp;done)|(simp [*];done),by repeat (first|exact bB.refl _|apply bB.step)⟩
attribute [local go_sem] dI dJ eI eJ cO cP dK dL
def kY.f (a0:Int):Option (Int):=if (Int.tmod a0 6)=5 then ((cK.f 10 0 0 9).bind fun Tv=>(some Tv)) else ((cK.f 10 0 0 ((1+(Int.tmod a0 3)) % 256)).bind fun Tw=>(some Tw))
theorem kY.calls (a0:Int) (r:Int) (w:World) (h:kY.f a0=some r):
  Calls Try.prog 49 #[.int .u8 a0] w fun e w'=>e= .returned (.int .u32 r) /\ bB w w':=by
 have H:(if (Int.tmod a0 6)=5 then ((cK.f 10 0 0 9).bind fun Tv=>(some Tv)) else ((cK.f 10 0 0 ((1+(Int.tmod a0 3)) % 256)).bind fun Tw=>(some Tw)))=some r:=h;clear h
 by_cases c2:(Int.tmod a0 6)=5
 ·rw [aq c2] at H
  have j4:((Int.tmod a0 6)==5)=true:=fF c2;have mq:((Int.tmod a0 6) !=5)=false:=kL c2;clear c2;replace H:=dc H;obtain ⟨Tv,wK,H⟩:=H
  (try dsimp -simprocs only at H)
  have A3:=aa.mk wK;clear wK;obtain rfl:=cN H
  go_enter Try.func49,Try.ntmps49
  go_wp2_with (first|((with_reducible refine az (f:=44) rfl ?_);refine gL 6 Try.func44 #[.int .u8 10,.int .u8 0,.int .u8 0,.int .u8 9] ?_;(with_reducible refine (cK.calls 10 0 0 9 Tv _ A3.out).mono ?_);rintro e w' ⟨rfl,⟨nd,rfl⟩⟩;refine ⟨_,rfl, ?_⟩))
  go_ret
  exact ⟨by first|rfl|(simp;done)|(simp [*];done),by repeat (first|exact bB.refl _|apply bB.step)⟩
 rw [av c2] at H
 have j4:((Int.tmod a0 6)==5)=false:=fq c2;have mq:((Int.tmod a0 6) !=5)=true:=lf c2;replace H:=dc H;obtain ⟨Tw,qo,H⟩:=H
 (try dsimp -simprocs only at H)
 have A4:=aa.mk qo;clear qo;obtain rfl:=cN H
 go_enter Try.func49,Try.ntmps49
 go_wp2_with (first|((with_reducible refine az (f:=44) rfl ?_);refine gL 10 Try.func44 #[.int .u8 10,.int .u8 0,.int .u8 0,.int .u8 ((1+(Int.tmod a0 3)) % 256)] ?_;(with_reducible refine (cK.calls 10 0 0 ((1+(Int.tmod a0 3)) % 256) Tw _ A4.out).mono ?_);rintro e w' ⟨rfl,⟨nd,rfl⟩⟩;refine ⟨_,rfl, ?_⟩))
 go_ret
 exact ⟨by first|rfl|(simp;done)|(simp [*];done),by repeat (first|exact bB.refl _|apply bB.step)⟩
mutual
def bQ.j0:Nat ->Int ->Int ->Bool ->Option (Int)
 |0,_,_,_=>none
 |k+1,x1,x6,x7=>if x7=true then ((cK.f 8 8 8 8).bind fun Tx=>(some Tx)) else (if x6=2 then ((cK.f 8 8 4 4).bind fun Ty=>(some Ty)) else (if x6=3 then ((cK.f 192 168 0 5).bind fun Tz=>(some Tz)) else (if x6=4 then ((cK.f 192 168 0 6).bind fun TA=>(some TA)) else (if x6=5 then (bQ.j1 k x1 x6 (x6==5)) else (bQ.j1 k x1 x6 (x6==6))))))
def bQ.j1:Nat ->Int ->Int ->Bool ->Option (Int)
 |0,_,_,_=>none
 |k+1,x1,x6,x20=>if x20=true then ((cK.f 5 5 x1 1).bind fun TB=>(some TB)) else (if x6=7 then ((cK.f 5 6 x1 9).bind fun TC=>(some TC)) else ((cK.f 5 5 (Go.bits .xor .u8 x1 1) 1).bind fun TD=>(some TD)))
end
def bQ.f (k:Nat) (a0:Int) (a1:Int):Option (Int):=if (Int.tmod a0 9)=0 then (bQ.j0 k a1 (Int.tmod a0 9) ((Int.tmod a0 9)==0)) else (bQ.j0 k a1 (Int.tmod a0 9) ((Int.tmod a0 9)==1))
theorem bQ.calls (k:Nat) (a0:Int) (a1:Int) (r:Int) (w:World) (h:bQ.f k a0 a1=some r):
  Calls Try.prog 50 #[.int .u8 a0,.int .u8 a1] w fun e w'=>e= .returned (.int .u32 r) /\ bB w w':=by
 have H:(if (Int.tmod a0 9)=0 then (bQ.j0 k a1 (Int.tmod a0 9) ((Int.tmod a0 9)==0)) else (bQ.j0 k a1 (Int.tmod a0 9) ((Int.tmod a0 9)==1)))=some r:=h;clear h;have HC3:=aa.mk H;clear H
 go_enter Try.func50,Try.ntmps50
 go_upto_if 7 with (fail)
 go_cut [7] (fun v7 wc=>∃ (kq:Nat) (yE:Bool),v7= .bool yE /\ aa (bQ.j0 kq a1 (Int.tmod a0 9) yE=some r) /\ aa (kq<=k) /\ bB w wc)
 case first=>
  have H:=HC3.out;clear HC3
  by_cases c4:(Int.tmod a0 9)=0
  ·rw [aq c4] at H
   have mw:((Int.tmod a0 9)==0)=true:=fF c4;have yh:((Int.tmod a0 9) !=0)=false:=kL c4;clear c4
   (first|rw [mw]|(simp only [gK,kD];rw [mw])|skip)
   have H':=aa.mk H;clear H
   go_wp2
   go_meet
   case rel=>exact ⟨_,(((Int.tmod a0 9)==0)),(by first|rfl|(simp;done)|(simp [*];done)),H',⟨by first|omega|exact Nat.le_refl _⟩,by repeat (first|exact bB.refl _|apply bB.step)⟩
  rw [av c4] at H
  have mw:((Int.tmod a0 9)==0)=false:=fq c4;have yh:((Int.tmod a0 9) !=0)=true:=lf c4
  (first|rw [mw]|(simp only [gK,kD];rw [mw])|skip)
  have H':=aa.mk H;clear H
  go_wp2
  go_meet
  case rel=>exact ⟨_,(((Int.tmod a0 9)==1)),(by first|rfl|(simp;done)|(simp [*];done)),H',⟨by first|omega|exact Nat.le_refl _⟩,by repeat (first|exact bB.refl _|apply bB.step)⟩
 clear HC3;obtain ⟨kq,yE,rfl,HA,HJ2,⟨mc2,rfl⟩⟩:=hcut
 cases kq with
 |zero=>exact absurd HA.out (by simp [bQ.j0])
 |succ kj2=>
  have H:=HA.out;clear HA;simp only [bQ.j0] at H
  by_cases c5:yE=true
  ·subst c5
   have H1:((cK.f 8 8 8 8).bind fun Tx=>(some Tx))=some r:=by rw [aq rfl] at H;exact H
   clear H;have H:=H1;clear H1;replace H:=dc H;obtain ⟨Tx,wD,H⟩:=H
   (try dsimp -simprocs only at H)
   have A6:=aa.mk wD;clear wD;obtain rfl:=cN H
   go_wp2_with (first|((with_reducible refine az (f:=44) rfl ?_);refine gL 10 Try.func44 #[.int .u8 8,.int .u8 8,.int .u8 8,.int .u8 8] ?_;(with_reducible refine (cK.calls 8 8 8 8 Tx _ A6.out).mono ?_);rintro e w' ⟨rfl,⟨nd,rfl⟩⟩;refine ⟨_,rfl, ?_⟩))
   go_ret
   exact ⟨by first|rfl|(simp;done)|(simp [*];done),by repeat (first|exact bB.refl _|apply bB.step)⟩
  replace c5:=zE c5
  subst c5;have H1:(if (Int.tmod a0 9)=2 then ((cK.f 8 8 4 4).bind fun Ty=>(some Ty)) else (if (Int.tmod a0 9)=3 then ((cK.f 192 168 0 5).bind fun Tz=>(some Tz)) else (if (Int.tmod a0 9)=4 then ((cK.f 192 168 0 6).bind fun TA=>(some TA)) else (if (Int.tmod a0 9)=5 then (bQ.j1 kj2 a1 (Int.tmod a0 9) ((Int.tmod a0 9)==5)) else (bQ.j1 kj2 a1 (Int.tmod a0 9) ((Int.tmod a0 9)==6))))))=some r:=by rw [av (show ¬ (false=true) by decide)] at H;exact H
  clear H;have H:=H1;clear H1
  by_cases c7:(Int.tmod a0 9)=2
  ·rw [aq c7] at H
   have AV:((Int.tmod a0 9)==2)=true:=fF c7;have VH:((Int.tmod a0 9) !=2)=false:=kL c7;clear c7;replace H:=dc H;obtain ⟨Ty,Ke,H⟩:=H
   (try dsimp -simprocs only at H)
   have A8:=aa.mk Ke;clear Ke;obtain rfl:=cN H
   go_wp2_with (first|((with_reducible refine az (f:=44) rfl ?_);refine gL 13 Try.func44 #[.int .u8 8,.int .u8 8,.int .u8 4,.int .u8 4] ?_;(with_reducible refine (cK.calls 8 8 4 4 Ty _ A8.out).mono ?_);rintro e w' ⟨rfl,⟨nd,rfl⟩⟩;refine ⟨_,rfl, ?_⟩))
   go_ret
   exact ⟨by first|rfl|(simp;done)|(simp [*];done),by repeat (first|exact bB.refl _|apply bB.step)⟩
  rw [av c7] at H
  have AV:((Int.tmod a0 9)==2)=false:=fq c7;have VH:((Int.tmod a0 9) !=2)=true:=lf c7
  by_cases c9:(Int.tmod a0 9)=3
  ·rw [aq c9] at H
   have wW:((Int.tmod a0 9)==3)=true:=fF c9;have O0:((Int.tmod a0 9) !=3)=false:=kL c9;clear c9;replace H:=dc H;obtain ⟨Tz,zU,H⟩:=H
   (try dsimp -simprocs only at H)
   have Lz:=aa.mk zU;clear zU;obtain rfl:=cN H
   go_wp2_with (first|((with_reducible refine az (f:=44) rfl ?_);refine gL 16 Try.func44 #[.int .u8 192,.int .u8 168,.int .u8 0,.int .u8 5] ?_;(with_reducible refine (cK.calls 192 168 0 5 Tz _ Lz.out).mono ?_);rintro e w' ⟨rfl,⟨nd,rfl⟩⟩;refine ⟨_,rfl, ?_⟩))
   go_ret
   exact ⟨by first|rfl|(simp;done)|(simp [*];done),by repeat (first|exact bB.refl _|apply bB.step)⟩
  rw [av c9] at H
  have wW:((Int.tmod a0 9)==3)=false:=fq c9;have O0:((Int.tmod a0 9) !=3)=true:=lf c9
  by_cases qX:(Int.tmod a0 9)=4
  ·rw [aq qX] at H
   have BA:((Int.tmod a0 9)==4)=true:=fF qX;have Nd:((Int.tmod a0 9) !=4)=false:=kL qX;clear qX;replace H:=dc H;obtain ⟨TA,zT,H⟩:=H
   (try dsimp -simprocs only at H)
   have VL:=aa.mk zT;clear zT;obtain rfl:=cN H
   go_wp2_with (first|((with_reducible refine az (f:=44) rfl ?_);refine gL 19 Try.func44 #[.int .u8 192,.int .u8 168,.int .u8 0,.int .u8 6] ?_;(with_reducible refine (cK.calls 192 168 0 6 TA _ VL.out).mono ?_);rintro e w' ⟨rfl,⟨nd,rfl⟩⟩;refine ⟨_,rfl, ?_⟩))
   go_ret
   exact ⟨by first|rfl|(simp;done)|(simp [*];done),by repeat (first|exact bB.refl _|apply bB.step)⟩
  rw [av qX] at H
  have BA:((Int.tmod a0 9)==4)=false:=fq qX;have Nd:((Int.tmod a0 9) !=4)=true:=lf qX;have AcS:=aa.mk H;clear H
  go_upto_if 20 with (fail)
  go_cut [20] (fun v20 wc=>∃ (kq:Nat) (Hu:Bool),v20= .bool Hu /\ aa (bQ.j1 kq a1 (Int.tmod a0 9) Hu=some r) /\ aa (kq<=kj2) /\ bB w wc)
  case first=>
   have H:=AcS.out;clear AcS
   by_cases CN:(Int.tmod a0 9)=5
   ·rw [aq CN] at H
    have DN:((Int.tmod a0 9)==5)=true:=fF CN;have SG:((Int.tmod a0 9) !=5)=false:=kL CN;clear CN
    (first|rw [DN]|(simp only [gK,kD];rw [DN])|skip)
    have H':=aa.mk H;clear H
    go_wp2
    go_meet
    case rel=>exact ⟨_,(((Int.tmod a0 9)==5)),(by first|rfl|(simp;done)|(simp [*];done)),H',⟨by have:=HJ2.out;first|omega|exact Nat.le_refl _⟩,by repeat (first|exact bB.refl _|apply bB.step)⟩
   rw [av CN] at H
   have DN:((Int.tmod a0 9)==5)=false:=fq CN;have SG:((Int.tmod a0 9) !=5)=true:=lf CN
   (first|rw [DN]|(simp only [gK,kD];rw [DN])|skip)
   have H':=aa.mk H;clear H
   go_wp2
   go_meet
   case rel=>exact ⟨_,(((Int.tmod a0 9)==6)),(by first|rfl|(simp;done)|(simp [*];done)),H',⟨by have:=HJ2.out;first|omega|exact Nat.le_refl _⟩,by repeat (first|exact bB.refl _|apply bB.step)⟩
  clear AcS
  try clear c5
  try clear c7
  try clear AV
  try clear VH
  try clear c9
  try clear wW
  try clear O0
  try clear qX
  try clear BA
  try clear Nd
  obtain ⟨kq,Hu,rfl,HA,AwT,⟨AwU,rfl⟩⟩:=hcut
  cases kq with
  |zero=>exact absurd HA.out (by simp [bQ.j1])
  |succ AwV=>
   have H:=HA.out;clear HA;simp only [bQ.j1] at H
   by_cases wS:Hu=true
   ·subst wS
    have H1:((cK.f 5 5 a1 1).bind fun TB=>(some TB))=some r:=by rw [aq rfl] at H;exact H
    clear H;have H:=H1;clear H1;replace H:=dc H;obtain ⟨TB,wU,H⟩:=H
    (try dsimp -simprocs only at H)
    have Qq:=aa.mk wU;clear wU;obtain rfl:=cN H
    go_wp2_with (first|((with_reducible refine az (f:=44) rfl ?_);refine gL 24 Try.func44 #[.int .u8 5,.int .u8 5,.int .u8 a1,.int .u8 1] ?_;(with_reducible refine (cK.calls 5 5 a1 1 TB _ Qq.out).mono ?_);rintro e w' ⟨rfl,⟨nd,rfl⟩⟩;refine ⟨_,rfl, ?_⟩))
    go_ret
    exact ⟨by first|rfl|(simp;done)|(simp [*];done),by repeat (first|exact bB.refl _|apply bB.step)⟩
   replace wS:=zE wS
   subst wS;have H1:(if (Int.tmod a0 9)=7 then ((cK.f 5 6 a1 9).bind fun TC=>(some TC)) else ((cK.f 5 5 (Go.bits .xor .u8 a1 1) 1).bind fun TD=>(some TD)))=some r:=by rw [av (show ¬ (false=true) by decide)] at H;exact H
   clear H;have H:=H1;clear H1
   by_cases rH:(Int.tmod a0 9)=7
   ·rw [aq rH] at H
    have I0:((Int.tmod a0 9)==7)=true:=fF rH;have Ri:((Int.tmod a0 9) !=7)=false:=kL rH;clear rH;replace H:=dc H;obtain ⟨TC,wV,H⟩:=H
    (try dsimp -simprocs only at H)
    have OY:=aa.mk wV;clear wV;obtain rfl:=cN H
    go_wp2_with (first|((with_reducible refine az (f:=44) rfl ?_);refine gL 28 Try.func44 #[.int .u8 5,.int .u8 6,.int .u8 a1,.int .u8 9] ?_;(with_reducible refine (cK.calls 5 6 a1 9 TC _ OY.out).mono ?_);rintro e w' ⟨rfl,⟨nd,rfl⟩⟩;refine ⟨_,rfl, ?_⟩))
    go_ret
    exact ⟨by first|rfl|(simp;done)|(simp [*];done),by repeat (first|exact bB.refl _|apply bB.step)⟩
   rw [av rH] at H
   have I0:((Int.tmod a0 9)==7)=false:=fq rH;have Ri:((Int.tmod a0 9) !=7)=true:=lf rH;replace H:=dc H;obtain ⟨TD,Dt,H⟩:=H
   (try dsimp -simprocs only at H)
   have A19:=aa.mk Dt;clear Dt;obtain rfl:=cN H
   go_wp2_with (first|((with_reducible refine az (f:=44) rfl ?_);refine gL 31 Try.func44 #[.int .u8 5,.int .u8 5,.int .u8 (Go.bits .xor .u8 a1 1),.int .u8 1] ?_;(with_reducible refine (cK.calls 5 5 (Go.bits .xor .u8 a1 1) 1 TD _ A19.out).mono ?_);rintro e w' ⟨rfl,⟨nd,rfl⟩⟩;refine ⟨_,rfl, ?_⟩))
   go_ret
   exact ⟨by first|rfl|(simp;done)|(simp [*];done),by repeat (first|exact bB.refl _|apply bB.step)⟩
def l7.f (a0:Int):Option (Int):=(some (([17,6,1,17]:List Int):List Int)).bind fun DW=>(if 0<=(Int.tmod a0 4) then (if (Int.tmod a0 4)<(DW.length:Int) then (some (rd DW (Int.tmod a0 4))) else (none)) else (none))
theorem l7.calls (a0:Int) (r:Int) (w:World) (h:l7.f a0=some r):
  Calls Try.prog 51 #[.int .u8 a0] w fun e w'=>e= .returned (.int .u8 r) /\ Below w.heap.size w w':=by
 have HB:=gI w;have H:((some (([17,6,1,17]:List Int):List Int)).bind fun DW=>(if 0<=(Int.tmod a0 4) then (if (Int.tmod a0 4)<(DW.length:Int) then (some (rd DW (Int.tmod a0 4))) else (none)) else (none)))=some r:=h;clear h;obtain ⟨DW,TE⟩:∃ y_:List Int,y_=(([17,6,1,17]:List Int)):=⟨_,rfl⟩
 rw [<- TE] at H
 have Zh:=aa.mk TE;clear TE;obtain ⟨Vd,AcT⟩:∃ j_:Int,(Int.tmod a0 4)=j_:=⟨_,rfl⟩
 replace H:(if 0<=(Vd) then (if (Vd)<(DW.length:Int) then (some (rd DW (Vd))) else (none)) else (none))=some r:=by first|(rw [AcT] at H;exact H)|(simp only [AcT] at H|-;exact H)
 by_cases c3:0<=(Vd)
 ·rw [aq c3] at H
  have oJ:decide (0<=(Vd))=true:=bN c3;clear c3
  by_cases c4:(Vd)<(DW.length:Int)
  ·rw [aq c4] at H
   have mw:decide ((Vd)<(DW.length:Int))=true:=bN c4;clear c4;obtain rfl:=cN H
   go_enter Try.func51,Try.ntmps51
   go_wp2_with (first|((with_reducible refine aA (N:=3) rfl ?_);refine Kd.qh (Kd.int .u8) _ 5 ?hg (N:=3) ?hd (xs:=([17,6,1,17]:List Int)) (inner:=[.int .u8 17,.int .u8 6,.int .u8 1,.int .u8 17]) (ok:=fun _=>True) (qW:=fun _=>True) ?hr ?hp (fun _ hk=>hk) trivial (Below.refl _ _) (Nat.le_refl _) (by simp) ?_;(case hd=>rfl);(case hg=>rfl);(case hr=>first|(go_simp;done)|(go_simp;rfl));(case hp=>exact (cD.one (show Kd.M (Kd.int .u8) _ _ _ 17 [.int .u8 17] from rfl) (cD.one (show Kd.M (Kd.int .u8) _ _ _ 6 [.int .u8 6] from rfl) (cD.one (show Kd.M (Kd.int .u8) _ _ _ 1 [.int .u8 1] from rfl) (cD.one (show Kd.M (Kd.int .u8) _ _ _ 17 [.int .u8 17] from rfl) (cD.none _ _))))));intro AwW w5 J5 hb fT iN;clear fT iN;(first|rw [<- Zh.out] at J5|(simp only [Int.reduceToNat] at J5;rw [<- Zh.out] at J5));have aH:=aa.mk (Kd.bP J5 (af (bz HB)));have aK:=aa.mk (au (bz HB) hb);clear HB;have Zi:=aH;have HB:=aK;clear aH aK;clear hb J5;obtain ⟨Ao7,co7,eo7⟩:=Kd.dn Zi.out;subst eo7;have AcU:0<=((Vd):Int):=gA;have AcV:(Vd)<(DW.length:Int):=gA;obtain ⟨Ats,Ap0,Alg⟩:=Kd.dG (Kd.ay Zi.out).2.2 (Vd) AcU AcV;cases Ap0;replace AcU:=eq_true AcU;replace AcV:=eq_true AcV))
   go_ret
   exact ⟨by first|rfl|(simp [aj,ak]<;>rfl)|(simp only [<- AcT];first|rfl|(simp [aj,ak]<;>rfl))|(simp [*,aj,ak]<;>rfl),bz HB⟩
  rw [av c4] at H
  cases H
 rw [av c3] at H
 cases H
def iZ.f (a0:Int):Option (Int):=if (Int.tmod a0 5)=0 then (some (IntKind.u16.wrap (1000+(IntKind.u16.wrap (a0 / 16))))) else (if (Int.tmod a0 5)=1 then (some 53) else (some (IntKind.u16.wrap (1020+(IntKind.u16.wrap (a0 / 8))))))
theorem iZ.calls (a0:Int) (r:Int) (w:World) (h:iZ.f a0=some r):
  Calls Try.prog 52 #[.int .u8 a0] w fun e w'=>e= .returned (.int .u16 r) /\ bB w w':=by
 have H:(if (Int.tmod a0 5)=0 then (some (IntKind.u16.wrap (1000+(IntKind.u16.wrap (a0 / 16))))) else (if (Int.tmod a0 5)=1 then (some 53) else (some (IntKind.u16.wrap (1020+(IntKind.u16.wrap (a0 / 8)))))))=some r:=h;clear h
 by_cases c2:(Int.tmod a0 5)=0
 ·rw [aq c2] at H
  have j4:((Int.tmod a0 5)==0)=true:=fF c2;have mq:((Int.tmod a0 5) !=0)=false:=kL c2;clear c2;obtain rfl:=cN H
  go_enter Try.func52,Try.ntmps52
  go_wp2
  go_ret
  exact ⟨by first|rfl|(simp;done)|(simp [*];done),by repeat (first|exact bB.refl _|apply bB.step)⟩
 rw [av c2] at H
 have j4:((Int.tmod a0 5)==0)=false:=fq c2;have mq:((Int.tmod a0 5) !=0)=true:=lf c2
 by_cases c3:(Int.tmod a0 5)=1
 ·rw [aq c3] at H
  have oJ:((Int.tmod a0 5)==1)=true:=fF c3;have qI:((Int.tmod a0 5) !=1)=false:=kL c3;clear c3;obtain rfl:=cN H
  go_enter Try.func52,Try.ntmps52
  go_wp2
  go_ret
  exact ⟨by first|rfl|(simp;done)|(simp [*];done),by repeat (first|exact bB.refl _|apply bB.step)⟩
 rw [av c3] at H
 have oJ:((Int.tmod a0 5)==1)=false:=fq c3;have qI:((Int.tmod a0 5) !=1)=true:=lf c3;obtain rfl:=cN H
 go_enter Try.func52,Try.ntmps52
 go_wp2
 go_ret
 exact ⟨by first|rfl|(simp;done)|(simp [*];done),by repeat (first|exact bB.refl _|apply bB.step)⟩
def bG.f (aU:Int) (bh:Int) (bn:Int) (bu:Int) (cn:List Int):Option (List Int×Int):=if (cn.length:Int)>65507 then (some (([]:List Int),23)) else ((bp.f (([aU,bh]:List Int)) bn).bind fun Hv=>((dM.f Hv bu).bind fun Ff=>(if Ff.length+cn.length<140737488355328 then (some ((Ff++cn),0)) else (none))))
def bG.T3:Bool×List (List Nat×List Nat):=(true,[([],[]),([0],[0]),([],[]),([2],[2]),([1,3],[1,3]),([],[]),([5],[5]),([4,6],[4,6]),([],[]),([8],[8]),([7,9,7],[7,9]),([],[]),([11],[11]),([10,12,10],[10,12]),([13,13,0,1,2,3,4,5,6,7,8,9,10,11,12,13],[13]),([14,0,1,2,3,4,5,6,7,8,9,10,11,12,13,14],[])])
def bG.B3:List Nat:=[0,1,0,4,15,0,32,127,0,256,1023,0,2048,8191,16383,32767]
theorem bG.Lr:gB .any (opsOf Try.f55 3)=bG.T3:=by kernel_rfl
theorem bG.Dk:cS bG.T3.2 bG.B3=true:=by kernel_rfl
theorem bG.calls (aU:Int) (bh:Int) (bn:Int) (bu:Int) (fI:Option Addr) (fJ:Nat) (cn:List Int) (r1:List Int) (r2:Int) (w:World) (jP:Kd.C (Kd.int .u8) w fI cn.length cn) (jQ:cn.length<=fJ) (h:bG.f aU bh bn bu cn=some (r1,r2)):
  Calls Try.prog 55 #[.agg #[.int .u8 aU,.int .u8 bh,.int .u16 bn,.int .u32 bu,.slice fI cn.length fJ]] w fun e w'=>∃ oW:Value,e= .returned (.tuple #[oW,.int .i64 r2]) /\ Kd.R (Kd.int .u8) 5 w' w.heap.size (fun _=>True) oW r1 /\ Below w.heap.size w w':=by
 have oA:=Try.underlying101;have oq:=aa.mk jP;have oY:=aa.mk jQ;clear jP jQ;have HB:=gI w;have H:(if (cn.length:Int)>65507 then (some (([]:List Int),23)) else ((bp.f (([aU,bh]:List Int)) bn).bind fun Hv=>((dM.f Hv bu).bind fun Ff=>(if Ff.length+cn.length<140737488355328 then (some ((Ff++cn),0)) else (none)))))=some (r1,r2):=h;clear h
 by_cases c2:(cn.length:Int)>65507
 ·rw [aq c2] at H
  have j4:decide (65507<(cn.length:Int))=true:=bN c2;have mq:decide (65507<cn.length)=true:=bN (by omega);clear c2;simp only [Option.some.injEq,Prod.mk.injEq] at H
  obtain ⟨rfl,rfl⟩:=H
  go_enter Try.func55,Try.ntmps55
  go_wp2_with (first|((with_reducible refine aA (N:=1) rfl ?_);refine aC ?hg (N:=1) ?hd (cs:= #[.int .u8 aU,.int .u8 bh,.int .u16 bn,.int .u32 bu,.slice fI cn.length fJ]) (t:=101) ?hr ?_;(case hd=>rfl);(case hg=>rfl);(case hr=>first|(go_simp;done)|(go_simp;rfl));intro pg hg w3 bJ hb;have aH:=aa.mk (au (bz HB) hb);have aK:=aa.mk (bJ);have bt:=aa.mk ((by rw [hg];exact (af (bz HB)):w.heap.size<=pg));have cC:=aa.mk ((by rw [hg];exact (af (bz HB)):w.heap.size<=pg));clear HB;have HB:=aH;have fK:=aK;have Ah3:=bt;have Ah4:=cC;clear aH aK bt cC;clear hb bJ hg;have pK:w3.cell? ⟨pg,0,none⟩=some (.int .u8 aU):=cz fK.out 0 rfl;have pL:w3.cell? ⟨pg,1,none⟩=some (.int .u8 bh):=cz fK.out 1 rfl;have pM:w3.cell? ⟨pg,2,none⟩=some (.int .u16 bn):=cz fK.out 2 rfl;have pN:w3.cell? ⟨pg,3,none⟩=some (.int .u32 bu):=cz fK.out 3 rfl;have uj:w3.cell? ⟨pg,4,none⟩=some (.slice fI cn.length fJ):=cz fK.out 4 rfl;have pO:=ae fK.out 0;have pP:=ae fK.out 1;have pQ:=ae fK.out 2;have pR:=ae fK.out 3;have uk:=ae fK.out 4))
  go_ret2
  exact ⟨_,by first|rfl|(simp [aj,ak]<;>rfl)|(simp [*,aj,ak]<;>rfl),by first|exact Kd.bX _ _ _ _ _|exact Kd.jn _ _ _ _ _|exact Kd.jo _ _ _ _ _|exact Kd.jl _ _ _ _ _|exact Kd.jm _ _ _ _ _,bz HB⟩
 rw [av c2] at H
 have j4:decide (65507<(cn.length:Int))=false:=gN c2;have mq:decide (65507<cn.length)=false:=gN (by omega);clear c2;obtain ⟨Wv,TF⟩:∃ y_:List Int,y_=(([aU,bh]:List Int)):=⟨_,rfl⟩
 rw [<- TF] at H
 have Zj:=aa.mk TF;clear TF;replace H:=dc H;obtain ⟨Hv,Dw,H⟩:=H
 (try dsimp -simprocs only at H)
 have A5:=aa.mk Dw;clear Dw;replace H:=dc H;obtain ⟨Ff,wD,H⟩:=H
 (try dsimp -simprocs only at H)
 have A6:=aa.mk wD;clear wD
 by_cases c7:Ff.length+cn.length<140737488355328
 rotate_left
 ·rw [av c7] at H
  cases H
 rw [aq c7] at H
 have Gp:=aa.mk c7;clear c7;obtain ⟨AwX,TG⟩:∃ y_:List Int,y_=(Ff++cn):=⟨_,rfl⟩
 rw [<- TG] at H
 have Ah5:=aa.mk TG;clear TG;simp only [Option.some.injEq,Prod.mk.injEq] at H
 obtain ⟨rfl,rfl⟩:=H
 go_enter Try.func55,Try.ntmps55
 try go_wp2_with (first|((with_reducible refine aA (N:=1) rfl ?_);refine aC ?hg (N:=1) ?hd (cs:= #[.int .u8 aU,.int .u8 bh,.int .u16 bn,.int .u32 bu,.slice fI cn.length fJ]) (t:=101) ?hr ?_;(case hd=>rfl);(case hg=>rfl);(case hr=>first|(go_simp;done)|(go_simp;rfl));intro pg hg w8 bJ hb;have aH:=aa.mk (au (bz HB) hb);have aK:=aa.mk (bJ);have bt:=aa.mk ((by rw [hg];exact (af (bz HB)):w.heap.size<=pg));have cC:=aa.mk ((by rw [hg];exact (af (bz HB)):w.heap.size<=pg));clear HB;have HB:=aH;have fK:=aK;have Ah3:=bt;have Ah4:=cC;clear aH aK bt cC;clear hb bJ hg;have Dy:w8.cell? ⟨pg,0,none⟩=some (.int .u8 aU):=cz fK.out 0 rfl;have Dz:w8.cell? ⟨pg,1,none⟩=some (.int .u8 bh):=cz fK.out 1 rfl;have DA:w8.cell? ⟨pg,2,none⟩=some (.int .u16 bn):=cz fK.out 2 rfl;have DB:w8.cell? ⟨pg,3,none⟩=some (.int .u32 bu):=cz fK.out 3 rfl;have GV:w8.cell? ⟨pg,4,none⟩=some (.slice fI cn.length fJ):=cz fK.out 4 rfl;have DC:=ae fK.out 0;have DD:=ae fK.out 1;have DE:=ae fK.out 2;have DF:=ae fK.out 3;have GW:=ae fK.out 4))
 have aH:=aa.mk (aJ fK.out);have aK:=aa.mk (bf HB.out);clear fK;clear HB;have fK:=aH;have HB:=aK;clear aH aK;refine dB (n:=16) (S:=fun w'=>w'.cell? ⟨pg,0,none⟩=some (.int .u8 aU) /\ w'.cell? ⟨pg,1,none⟩=some (.int .u8 bh) /\ w'.cell? ⟨pg,2,none⟩=some (.int .u16 bn) /\ w'.cell? ⟨pg,3,none⟩=some (.int .u32 bu) /\ w'.cell? ⟨pg,4,none⟩=some (.slice fI cn.length fJ)) (ds:=[]) #[false,false,false,false,false,false,false,false,false,false,false,false,false,false,false,false] (by kernel_rfl) rfl rfl ⟨cz fK.out 0 rfl,cz fK.out 1 rfl,cz fK.out 2 rfl,cz fK.out 3 rfl,cz fK.out 4 rfl⟩ (fun hHeld=> ?_);refine bF bG.Lr bG.Dk (fun ax eu=> ?_);generalize w8.drew=ku at fK HB hHeld|-
 refine pz 0 8 ax ?_;refine pz 2 10 ax ?_;refine pz 5 13 ax ?_;refine pz 8 16 ax ?_;refine pz 11 19 ax ?_;refine gF (i:=1) (N:=some 9) (v:= ?_) (a':= ?_) #[true,true,true,false,false,true,false,false,true,false,false,true,false,false,false,false] rfl rfl (dm ax.out eu.out (by kernel_rfl)) (fun _ _ _ h=>h) (Or.inl ⟨by rfl, ?_⟩) hHeld ?_ ?_
 rotate_left
 ·rintro w' ⟨s0,s1,s2,s3,s4⟩
  go_simp
  with_reducible rfl
 rotate_left
 ·simp only [pG]
  rfl
 refine gF (i:=3) (N:=some 11) (v:= ?_) (a':= ?_) #[true,true,true,true,false,true,false,false,true,false,false,true,false,false,false,false] rfl rfl (dm ax.out eu.out (by kernel_rfl)) (fun _ _ _ h=>h) (Or.inl ⟨by rfl, ?_⟩) hHeld ?_ ?_
 rotate_left
 ·rintro w' ⟨s0,s1,s2,s3,s4⟩
  go_simp
  with_reducible rfl
 rotate_left
 ·simp only [pG]
  rfl
 refine gF (i:=6) (N:=some 14) (v:= ?_) (a':= ?_) #[true,true,true,true,false,true,true,false,true,false,false,true,false,false,false,false] rfl rfl (dm ax.out eu.out (by kernel_rfl)) (fun _ _ _ h=>h) (Or.inl ⟨by rfl, ?_⟩) hHeld ?_ ?_
 rotate_left
 ·rintro w' ⟨s0,s1,s2,s3,s4⟩
  go_simp
  with_reducible rfl
 rotate_left
 ·simp only [pG]
  rfl
 refine gF (i:=9) (N:=some 17) (v:= ?_) (a':= ?_) #[true,true,true,true,false,true,true,false,true,true,false,true,false,false,false,false] rfl rfl (dm ax.out eu.out (by kernel_rfl)) (fun _ _ _ h=>h) (Or.inl ⟨by rfl, ?_⟩) hHeld ?_ ?_
 rotate_left
 ·rintro w' ⟨s0,s1,s2,s3,s4⟩
  go_simp
  with_reducible rfl
 rotate_left
 ·simp only [pG]
  rfl
 refine gF (i:=12) (N:=some 20) (v:= ?_) (a':= ?_) #[true,true,true,true,false,true,true,false,true,true,false,true,true,false,false,false] rfl rfl (dm ax.out eu.out (by kernel_rfl)) (fun _ _ _ h=>h) (Or.inl ⟨by rfl, ?_⟩) hHeld ?_ ?_
 rotate_left
 ·rintro w' ⟨s0,s1,s2,s3,s4⟩
  go_simp
  with_reducible rfl
 rotate_left
 ·simp only [pG]
  rfl
 refine oz 4 (some 12) ax (fun K hK=> ?_);refine Kd.qm (Kd.int .u8) _ 5 ?hg (N:=12) ?hd (xs:=([aU,bh]:List Int)) (inner:=[.int .u8 aU,.int .u8 bh]) (ok:=fun _=>True) (qW:=fun _=>True) ?hr ?hp (fun _ hk=>hk) trivial (Below.refl _ _) (Nat.le_refl _) (by simp) ?_;(case hd=>rfl);(case hg=>rfl);(case hr=>first|(go_simp;done)|(go_simp;rfl));(case hp=>exact (cD.one (show Kd.M (Kd.int .u8) _ _ _ aU [.int .u8 aU] from rfl) (cD.one (show Kd.M (Kd.int .u8) _ _ _ bh [.int .u8 bh] from rfl) (cD.none _ _))));intro AwY sn Bd hb fT iN;clear fT iN
 (first|rw [<- Zj.out] at Bd|(simp only [Int.reduceToNat] at Bd;rw [<- Zj.out] at Bd))
 have aH:=aa.mk (Kd.bP Bd (af (bz HB)));have aK:=aa.mk (bq (kz fK) hb);have bt:=aa.mk (au (bz HB) hb);clear fK;clear HB;have NY:=aH;have fK:=aK;have HB:=bt;clear aH aK bt;clear hb Bd;obtain ⟨Kf,Kg,Mm⟩:=Kd.dn NY.out
 (first|subst Mm|(injection Mm with mT ry mU;have rA:=mT.symm;have rB:=mU.symm;clear mT ry mU;subst rA;subst rB))
 refine hK.out _ _ ⟨cz fK.out 0 rfl,cz fK.out 1 rfl,cz fK.out 2 rfl,cz fK.out 3 rfl,cz fK.out 4 rfl⟩ (fun hHeld=> ?_);clear hK K;refine nz 12 ?_;refine oz 7 (some 15) ax (fun K hK=> ?_);refine gG Try.func83 #[.slice Kf Wv.length Kg,.int .u16 bn] ?_
 with_reducible refine (bp.calls (fun k_=>some k_=(.slice Kf Wv.length Kg:Value).ownBlock) (.slice Kf Wv.length Kg) Wv bn Hv w _ ?aE ?aG A5.out).mono ?_
 (case aE=>exact bz HB)
 (case aG=>exact Kd.kF rfl NY.out)
 rintro e qY ⟨AwZ,rfl,gC,hb,hkp⟩;refine ⟨_,rfl, ?_⟩;have aH:=aa.mk (ja (kz fK) hkp (fun hs_=>(fun e_=>(Kd.nk NY.out fK.out (by decide)) e_) hs_));have aK:=aa.mk (Kd.dA (ok':=fun k_=>True) gC (fun k_ mo=>trivial));have bt:=aa.mk (hb);clear fK;clear HB;clear NY;have fK:=aH;have NZ:=aK;have HB:=bt;clear aH aK bt
 (try clear hb)
 (try clear hkp)
 (try clear gC)
 obtain ⟨Ww,Wx,Wy⟩:=Kd.dn NZ.out
 (first|subst Wy|(injection Wy with mT ry mU;have rA:=mT.symm;have rB:=mU.symm;clear mT ry mU;subst rA;subst rB))
 refine hK.out _ _ ⟨cz fK.out 0 rfl,cz fK.out 1 rfl,cz fK.out 2 rfl,cz fK.out 3 rfl,cz fK.out 4 rfl⟩ (fun hHeld=> ?_);clear hK K;refine nz 15 ?_;refine oz 10 (some 18) ax (fun K hK=> ?_);refine gG Try.func84 #[.slice Ww Hv.length Wx,.int .u32 bu] ?_
 with_reducible refine (dM.calls (fun k_=>some k_=(.slice Ww Hv.length Wx:Value).ownBlock) (.slice Ww Hv.length Wx) Hv bu Ff w _ ?aE ?aG A6.out).mono ?_
 (case aE=>exact bz HB)
 (case aG=>exact Kd.kF rfl NZ.out)
 rintro e qJ ⟨Ap1,rfl,gC,hb,hkp⟩;refine ⟨_,rfl, ?_⟩;have aH:=aa.mk (ja (kz fK) hkp (fun hs_=>(fun e_=>(Kd.nk NZ.out fK.out (by decide)) e_) hs_));have aK:=aa.mk (Kd.dA (ok':=fun k_=>True) gC (fun k_ mo=>trivial));have bt:=aa.mk (hb);clear fK;clear HB;clear NZ;have fK:=aH;have TH:=aK;have HB:=bt;clear aH aK bt
 (try clear hb)
 (try clear hkp)
 (try clear gC)
 refine hK.out _ _ ⟨cz fK.out 0 rfl,cz fK.out 1 rfl,cz fK.out 2 rfl,cz fK.out 3 rfl,cz fK.out 4 rfl⟩ (fun hHeld=> ?_);clear hK K;refine nz 18 ?_;refine oz 13 (some 21) ax (fun K hK=> ?_);refine Kd.jw (Kd.int .u8) (w0:=w) w.heap.size (by rfl) (.tmp 18) (.tmp 20) 23 5 (.int .u8 0) 1 rfl Try.underlying23 fY rfl (by decide) (by omega) Ap1 Ff cn _ _ _ (fun _=>True) (fun _=>False) rfl rfl ?aO ?aR (fun _ _ h=>h) (fun _ h=>h.elim) ?aF ?aB ?aS ?aL ?_
 (case aR=>exact Kd.aW oq.out (bz HB))
 (case aB=>exact bz HB)
 (case aF=>exact (fun _ _=>trivial))
 (case aO=>exact (Kd.rz TH))
 (case aS=>exact (af (bz HB)))
 (case aL=>have:=Gp.out;omega)
 intro Aw0 Fa ho hb hg hat;rw [<- Ah5.out] at ho
 have aH:=aa.mk (gW (kz fK) hg (Kd.nk TH.out fK.out (by decide)));have aK:=aa.mk (hb);have bt:=aa.mk (ho);clear fK;clear HB;clear TH;have fK:=aH;have HB:=aK;have Ah6:=bt;clear aH aK bt;clear ho hb hg hat;refine hK.out _ _ ⟨cz fK.out 0 rfl,cz fK.out 1 rfl,cz fK.out 2 rfl,cz fK.out 3 rfl,cz fK.out 4 rfl⟩ (fun hHeld=> ?_);clear hK K;refine nz 21 ?_;refine pz 14 2 ax ?_;refine pz 15 3 ax ?_;refine dz ax ?_
 try go_wp2
 go_ret2
 exact ⟨_,by first|rfl|(simp [aj,ak]<;>rfl)|(simp [*,aj,ak]<;>rfl),by (with_reducible repeat (first|apply Kd.fg|apply Kd.eV|apply Kd.fj));exact Ah6.out,bz HB⟩
def fE.f (k:Nat) (aU:Int) (bh:Int) (bn:Int) (bu:Int) (cn:List Int):Option (Int):=(bG.f aU bh 0 bu cn).bind fun Kh=>(if Kh.2=0 then ((iK.f k Kh.1).bind fun TI=>(some TI)) else (some 0))
theorem fE.calls (k:Nat) (aU:Int) (bh:Int) (bn:Int) (bu:Int) (fI:Option Addr) (fJ:Nat) (cn:List Int) (r:Int) (w:World) (jP:Kd.C (Kd.int .u8) w fI cn.length cn) (jQ:cn.length<=fJ) (h:fE.f k aU bh bn bu cn=some r):
  Calls Try.prog 54 #[.agg #[.int .u8 aU,.int .u8 bh,.int .u16 bn,.int .u32 bu,.slice fI cn.length fJ]] w fun e w'=>e= .returned (.int .u16 r) /\ Below w.heap.size w w':=by
 have oA:=Try.underlying101;have oq:=aa.mk jP;have oY:=aa.mk jQ;clear jP jQ;have HB:=gI w;have H:((bG.f aU bh 0 bu cn).bind fun Kh=>(if Kh.2=0 then ((iK.f k Kh.1).bind fun TI=>(some TI)) else (some 0)))=some r:=h;clear h;replace H:=dc H;obtain ⟨⟨Wz,Mn⟩,uM,H⟩:=H
 (try dsimp -simprocs only at H)
 have A2:=aa.mk uM;clear uM
 by_cases c3:Mn=0
 ·rw [aq c3] at H
  have oJ:(Mn==0)=true:=fF c3;have qI:(Mn !=0)=false:=kL c3;clear c3;replace H:=dc H;obtain ⟨TI,qo,H⟩:=H
  (try dsimp -simprocs only at H)
  have A4:=aa.mk qo;clear qo;obtain rfl:=cN H
  go_enter Try.func54,Try.ntmps54
  go_wp2_with (first|((with_reducible refine aA (N:=1) rfl ?_);refine aC ?hg (N:=1) ?hd (cs:= #[.int .u8 aU,.int .u8 bh,.int .u16 bn,.int .u32 bu,.slice fI cn.length fJ]) (t:=101) ?hr ?_;(case hd=>rfl);(case hg=>rfl);(case hr=>first|(go_simp;done)|(go_simp;rfl));intro qP hg w5 bJ hb;have aH:=aa.mk (au (bz HB) hb);have aK:=aa.mk (bJ);have bt:=aa.mk ((by rw [hg];exact (af (bz HB)):w.heap.size<=qP));have cC:=aa.mk ((by rw [hg];exact (af (bz HB)):w.heap.size<=qP));clear HB;have HB:=aH;have kQ:=aK;have Ah7:=bt;have Ah8:=cC;clear aH aK bt cC;clear hb bJ hg;have Gv:w5.cell? ⟨qP,0,none⟩=some (.int .u8 aU):=cz kQ.out 0 rfl;have Gw:w5.cell? ⟨qP,1,none⟩=some (.int .u8 bh):=cz kQ.out 1 rfl;have Gx:w5.cell? ⟨qP,2,none⟩=some (.int .u16 bn):=cz kQ.out 2 rfl;have Gy:w5.cell? ⟨qP,3,none⟩=some (.int .u32 bu):=cz kQ.out 3 rfl;have SA:w5.cell? ⟨qP,4,none⟩=some (.slice fI cn.length fJ):=cz kQ.out 4 rfl;have Gz:=ae kQ.out 0;have GA:=ae kQ.out 1;have GD:=ae kQ.out 2;have GF:=ae kQ.out 3;have SB:=ae kQ.out 4)|((with_reducible refine az (f:=55) rfl ?_);refine gL 8 Try.func55 #[.agg #[.int .u8 aU,.int .u8 bh,.int .u16 0,.int .u32 bu,.slice fI cn.length fJ]] ?_;(with_reducible refine (bG.calls aU bh 0 bu _ _ cn Wz Mn _ ?aE ?aG A2.out).mono ?_);(case aE=>exact Kd.aW oq.out (bz HB));(case aG=>exact oY.out);rintro e w7 ⟨Ap2,rfl,gC,hb⟩;refine ⟨_,rfl, ?_⟩;have aH:=aa.mk (Kd.bP gC (af (bz HB)));have aK:=aa.mk (bq (g:=qP) (o:= .cells #[.int .u8 aU,.int .u8 bh,.int .u16 0,.int .u32 bu,.slice fI cn.length fJ] 101 (0,0)) (by (with_reducible repeat (first|refine aQ ?_ _|refine aJ ?_|refine aM ?_ _));refine bK (cs:= #[.int .u8 aU,.int .u8 bh,.int .u16 bn,.int .u32 bu,.slice fI cn.length fJ]) ?_ 2 _ rfl;(with_reducible repeat (first|refine aQ ?_ _|refine aJ ?_|refine aM ?_ _));exact kQ.out) hb);have bt:=aa.mk (au (bz HB) hb);clear kQ;clear HB;have DX:=aH;have kQ:=aK;have HB:=bt;clear aH aK bt;(try clear hb);(try clear hb2);(try clear hk);(try clear hi);(try clear gC);obtain ⟨Ao8,co8,eo8⟩:=Kd.dn DX.out;subst eo8)|((with_reducible refine az (f:=85) rfl ?_);refine gL 14 Try.func85 #[.slice Ao8 Wz.length co8] ?_;(with_reducible refine (iK.calls k _ _ Wz TI _ ?aE ?aG A4.out).mono ?_);(case aE=>repeat (first|exact (Kd.ay DX.out).2.2|(with_reducible refine Kd.fH ?_ _)|(with_reducible refine Kd.fz ?_ _)|(with_reducible refine Kd.gQ ?_)));(case aG=>exact (Kd.ay DX.out).2.1);rintro e w9 ⟨rfl,hb⟩;refine ⟨_,rfl, ?_⟩;have aH:=aa.mk (Kd.fX (Kd.rz DX) hb);have aK:=aa.mk (bq (kz kQ) hb);have bt:=aa.mk (au (bz HB) hb);clear DX;clear kQ;clear HB;have DX:=aH;have kQ:=aK;have HB:=bt;clear aH aK bt;(try clear hb);(try clear hb2);(try clear hk);(try clear hi)))
  go_ret
  exact ⟨by first|rfl|(simp [aj,ak]<;>rfl)|(simp [*,aj,ak]<;>rfl),bz HB⟩
 rw [av c3] at H
 have oJ:(Mn==0)=false:=fq c3;have qI:(Mn !=0)=true:=lf c3;obtain rfl:=cN H
 go_enter Try.func54,Try.ntmps54
 go_wp2_with (first|((with_reducible refine aA (N:=1) rfl ?_);refine aC ?hg (N:=1) ?hd (cs:= #[.int .u8 aU,.int .u8 bh,.int .u16 bn,.int .u32 bu,.slice fI cn.length fJ]) (t:=101) ?hr ?_;(case hd=>rfl);(case hg=>rfl);(case hr=>first|(go_simp;done)|(go_simp;rfl));intro qP hg ku bJ hb;have aH:=aa.mk (au (bz HB) hb);have aK:=aa.mk (bJ);have bt:=aa.mk ((by rw [hg];exact (af (bz HB)):w.heap.size<=qP));have cC:=aa.mk ((by rw [hg];exact (af (bz HB)):w.heap.size<=qP));clear HB;have HB:=aH;have kQ:=aK;have Ah7:=bt;have Ah8:=cC;clear aH aK bt cC;clear hb bJ hg;have xT:ku.cell? ⟨qP,0,none⟩=some (.int .u8 aU):=cz kQ.out 0 rfl;have xU:ku.cell? ⟨qP,1,none⟩=some (.int .u8 bh):=cz kQ.out 1 rfl;have xV:ku.cell? ⟨qP,2,none⟩=some (.int .u16 bn):=cz kQ.out 2 rfl;have xW:ku.cell? ⟨qP,3,none⟩=some (.int .u32 bu):=cz kQ.out 3 rfl;have GX:ku.cell? ⟨qP,4,none⟩=some (.slice fI cn.length fJ):=cz kQ.out 4 rfl;have xX:=ae kQ.out 0;have xY:=ae kQ.out 1;have xZ:=ae kQ.out 2;have yc:=ae kQ.out 3;have GY:=ae kQ.out 4)|((with_reducible refine az (f:=55) rfl ?_);refine gL 8 Try.func55 #[.agg #[.int .u8 aU,.int .u8 bh,.int .u16 0,.int .u32 bu,.slice fI cn.length fJ]] ?_;(with_reducible refine (bG.calls aU bh 0 bu _ _ cn Wz Mn _ ?aE ?aG A2.out).mono ?_);(case aE=>exact Kd.aW oq.out (bz HB));(case aG=>exact oY.out);rintro e nP ⟨Ap2,rfl,gC,hb⟩;refine ⟨_,rfl, ?_⟩;have aH:=aa.mk (Kd.bP gC (af (bz HB)));have aK:=aa.mk (bq (g:=qP) (o:= .cells #[.int .u8 aU,.int .u8 bh,.int .u16 0,.int .u32 bu,.slice fI cn.length fJ] 101 (0,0)) (by (with_reducible repeat (first|refine aQ ?_ _|refine aJ ?_|refine aM ?_ _));refine bK (cs:= #[.int .u8 aU,.int .u8 bh,.int .u16 bn,.int .u32 bu,.slice fI cn.length fJ]) ?_ 2 _ rfl;(with_reducible repeat (first|refine aQ ?_ _|refine aJ ?_|refine aM ?_ _));exact kQ.out) hb);have bt:=aa.mk (au (bz HB) hb);clear kQ;clear HB;have DX:=aH;have kQ:=aK;have HB:=bt;clear aH aK bt;(try clear hb);(try clear hb2);(try clear hk);(try clear hi);(try clear gC)))
 go_ret
 exact ⟨by first|rfl|(simp [aj,ak]<;>rfl)|(simp [*,aj,ak]<;>rfl),bz HB⟩
def kZ.f (k:Nat) (a0:Int) (a1:Int) (ew:Int) (ez:Int) (ee:Int) (gS:List Int):Option (Int):=(cl.f ew ez 0 gS).bind fun DY=>(if DY.2=0 then ((eC.f k a0 a1 17 (DY.1.length:Int)).bind fun Fg=>((bW.f k Fg DY.1).bind fun Fh=>((bE.f k Fh).bind fun Bh=>(if (Go.bits .xor .u16 IntKind.u16.max Bh)=0 then (some 65535) else (some (Go.bits .xor .u16 IntKind.u16.max Bh)))))) else (some 0))
theorem kZ.calls (k:Nat) (a0:Int) (a1:Int) (ew:Int) (ez:Int) (ee:Int) (kU:Option Addr) (kV:Nat) (gS:List Int) (r:Int) (w:World) (xg:Kd.C (Kd.int .u8) w kU gS.length gS) (xh:gS.length<=kV) (h:kZ.f k a0 a1 ew ez ee gS=some r):
  Calls Try.prog 72 #[.int .u32 a0,.int .u32 a1,.agg #[.int .u16 ew,.int .u16 ez,.int .u16 ee,.slice kU gS.length kV]] w fun e w'=>e= .returned (.int .u16 r) /\ Below w.heap.size w w':=by
 have zO:=Try.underlying83;have zQ:IntKind.u16.signed=false:=rfl;have xj:=aa.mk xg;have xk:=aa.mk xh;clear xg xh;have HB:=gI w;have H:((cl.f ew ez 0 gS).bind fun DY=>(if DY.2=0 then ((eC.f k a0 a1 17 (DY.1.length:Int)).bind fun Fg=>((bW.f k Fg DY.1).bind fun Fh=>((bE.f k Fh).bind fun Bh=>(if (Go.bits .xor .u16 IntKind.u16.max Bh)=0 then (some 65535) else (some (Go.bits .xor .u16 IntKind.u16.max Bh)))))) else (some 0)))=some r:=h;clear h;replace H:=dc H;obtain ⟨⟨DZ,Ki⟩,qo,H⟩:=H
 (try dsimp -simprocs only at H)
 have A4:=aa.mk qo;clear qo
 by_cases c5:Ki=0
 rotate_left
 ·rw [av c5] at H
  have mJ:(Ki==0)=false:=fq c5;have qn:(Ki !=0)=true:=lf c5;obtain rfl:=cN H
  go_enter Try.func72,Try.ntmps72
  go_wp2_with (first|((with_reducible refine aA (N:=5) rfl ?_);refine aC ?hg (N:=5) ?hd (cs:= #[.int .u16 ew,.int .u16 ez,.int .u16 ee,.slice kU gS.length kV]) (t:=83) ?hr ?_;(case hd=>rfl);(case hg=>rfl);(case hr=>first|(go_simp;done)|(go_simp;rfl));intro nI hg w20 bJ hb;have aH:=aa.mk (au (bz HB) hb);have aK:=aa.mk (bJ);have bt:=aa.mk ((by rw [hg];exact (af (bz HB)):w.heap.size<=nI));have cC:=aa.mk ((by rw [hg];exact (af (bz HB)):w.heap.size<=nI));clear HB;have HB:=aH;have iU:=aK;have Zk:=bt;have Zl:=cC;clear aH aK bt cC;clear hb bJ hg;have Alh:w20.cell? ⟨nI,0,none⟩=some (.int .u16 ew):=cz iU.out 0 rfl;have Ali:w20.cell? ⟨nI,1,none⟩=some (.int .u16 ez):=cz iU.out 1 rfl;have Alj:w20.cell? ⟨nI,2,none⟩=some (.int .u16 ee):=cz iU.out 2 rfl;have Alk:w20.cell? ⟨nI,3,none⟩=some (.slice kU gS.length kV):=cz iU.out 3 rfl;have All:=ae iU.out 0;have Alm:=ae iU.out 1;have Aln:=ae iU.out 2;have Alo:=ae iU.out 3)|((with_reducible refine az (f:=48) rfl ?_);refine gL 13 Try.func48 #[.agg #[.int .u16 ew,.int .u16 ez,.int .u16 0,.slice kU gS.length kV]] ?_;(with_reducible refine (cl.calls ew ez 0 _ _ gS DZ Ki _ ?aE ?aG A4.out).mono ?_);(case aE=>exact Kd.aW xj.out (bz HB));(case aG=>exact xk.out);rintro e Qu ⟨Ah9,rfl,gC,hb⟩;refine ⟨_,rfl, ?_⟩;have aH:=aa.mk (Kd.bP gC (af (bz HB)));have aK:=aa.mk (bq (g:=nI) (o:= .cells #[.int .u16 ew,.int .u16 ez,.int .u16 0,.slice kU gS.length kV] 83 (0,0)) (by (with_reducible repeat (first|refine aQ ?_ _|refine aJ ?_|refine aM ?_ _));refine bK (cs:= #[.int .u16 ew,.int .u16 ez,.int .u16 ee,.slice kU gS.length kV]) ?_ 2 _ rfl;(with_reducible repeat (first|refine aQ ?_ _|refine aJ ?_|refine aM ?_ _));exact iU.out) hb);have bt:=aa.mk (au (bz HB) hb);clear iU;clear HB;have tW:=aH;have iU:=aK;have HB:=bt;clear aH aK bt;(try clear hb);(try clear hb2);(try clear hk);(try clear hi);(try clear gC)))
  go_ret
  exact ⟨by first|rfl|(simp [aj,ak]<;>rfl)|(simp [*,aj,ak]<;>rfl),bz HB⟩
 rw [aq c5] at H
 have mJ:(Ki==0)=true:=fF c5;have qn:(Ki !=0)=false:=kL c5;clear c5;replace H:=dc H;obtain ⟨Fg,wD,H⟩:=H
 (try dsimp -simprocs only at H)
 have A6:=aa.mk wD;clear wD;replace H:=dc H;obtain ⟨Fh,BB,H⟩:=H
 (try dsimp -simprocs only at H)
 have A7:=aa.mk BB;clear BB;replace H:=dc H;obtain ⟨Bh,Ke,H⟩:=H
 (try dsimp -simprocs only at H)
 have A8:=aa.mk Ke;clear Ke
 by_cases c9:(Go.bits .xor .u16 IntKind.u16.max Bh)=0
 ·rw [aq c9] at H
  have wW:((Go.bits .xor .u16 IntKind.u16.max Bh)==0)=true:=fF c9;have O0:((Go.bits .xor .u16 IntKind.u16.max Bh) !=0)=false:=kL c9;clear c9;obtain rfl:=cN H
  go_enter Try.func72,Try.ntmps72
  go_wp2_with (first|((with_reducible refine aA (N:=5) rfl ?_);refine aC ?hg (N:=5) ?hd (cs:= #[.int .u16 ew,.int .u16 ez,.int .u16 ee,.slice kU gS.length kV]) (t:=83) ?hr ?_;(case hd=>rfl);(case hg=>rfl);(case hr=>first|(go_simp;done)|(go_simp;rfl));intro nI hg ku bJ hb;have aH:=aa.mk (au (bz HB) hb);have aK:=aa.mk (bJ);have bt:=aa.mk ((by rw [hg];exact (af (bz HB)):w.heap.size<=nI));have cC:=aa.mk ((by rw [hg];exact (af (bz HB)):w.heap.size<=nI));clear HB;have HB:=aH;have iU:=aK;have Zk:=bt;have Zl:=cC;clear aH aK bt cC;clear hb bJ hg;have xT:ku.cell? ⟨nI,0,none⟩=some (.int .u16 ew):=cz iU.out 0 rfl;have xU:ku.cell? ⟨nI,1,none⟩=some (.int .u16 ez):=cz iU.out 1 rfl;have xV:ku.cell? ⟨nI,2,none⟩=some (.int .u16 ee):=cz iU.out 2 rfl;have xW:ku.cell? ⟨nI,3,none⟩=some (.slice kU gS.length kV):=cz iU.out 3 rfl;have xX:=ae iU.out 0;have xY:=ae iU.out 1;have xZ:=ae iU.out 2;have yc:=ae iU.out 3)|((with_reducible refine az (f:=48) rfl ?_);refine gL 13 Try.func48 #[.agg #[.int .u16 ew,.int .u16 ez,.int .u16 0,.slice kU gS.length kV]] ?_;(with_reducible refine (cl.calls ew ez 0 _ _ gS DZ Ki _ ?aE ?aG A4.out).mono ?_);(case aE=>exact Kd.aW xj.out (bz HB));(case aG=>exact xk.out);rintro e nP ⟨Ah9,rfl,gC,hb⟩;refine ⟨_,rfl, ?_⟩;have aH:=aa.mk (Kd.bP gC (af (bz HB)));have aK:=aa.mk (bq (g:=nI) (o:= .cells #[.int .u16 ew,.int .u16 ez,.int .u16 0,.slice kU gS.length kV] 83 (0,0)) (by (with_reducible repeat (first|refine aQ ?_ _|refine aJ ?_|refine aM ?_ _));refine bK (cs:= #[.int .u16 ew,.int .u16 ez,.int .u16 ee,.slice kU gS.length kV]) ?_ 2 _ rfl;(with_reducible repeat (first|refine aQ ?_ _|refine aJ ?_|refine aM ?_ _));exact iU.out) hb);have bt:=aa.mk (au (bz HB) hb);clear iU;clear HB;have tW:=aH;have iU:=aK;have HB:=bt;clear aH aK bt;(try clear hb);(try clear hb2);(try clear hk);(try clear hi);(try clear gC);obtain ⟨Kf,Kg,Mm⟩:=Kd.dn tW.out;subst Mm)|((with_reducible refine az (f:=82) rfl ?_);refine gL 22 Try.func82 #[.int .u32 a0,.int .u32 a1,.int .u8 17,.int .i64 (DZ.length:Int)] ?_;(with_reducible refine (eC.calls k a0 a1 17 (DZ.length:Int) Fg _ A6.out).mono ?_);rintro e w' ⟨rfl,⟨nd,rfl⟩⟩;refine ⟨_,rfl, ?_⟩)|((with_reducible refine az (f:=80) rfl ?_);refine gL 24 Try.func80 #[.int .u32 Fg,.slice Kf DZ.length Kg] ?_;(with_reducible refine (bW.calls k Fg _ _ DZ Fh _ ?aE ?aG A7.out).mono ?_);(case aE=>repeat (first|exact (Kd.ay tW.out).2.2|(with_reducible refine Kd.fH ?_ _)|(with_reducible refine Kd.fz ?_ _)|(with_reducible refine Kd.gQ ?_)));(case aG=>exact (Kd.ay tW.out).2.1);rintro e qY ⟨rfl,hb⟩;refine ⟨_,rfl, ?_⟩;have aH:=aa.mk (Kd.fX (Kd.rz tW) hb);have aK:=aa.mk (bq (kz iU) hb);have bt:=aa.mk (au (bz HB) hb);clear tW;clear iU;clear HB;have tW:=aH;have iU:=aK;have HB:=bt;clear aH aK bt;(try clear hb);(try clear hb2);(try clear hk);(try clear hi))|((with_reducible refine az (f:=79) rfl ?_);refine gL 25 Try.func79 #[.int .u32 Fh] ?_;(with_reducible refine (bE.calls k Fh Bh _ A8.out).mono ?_);rintro e w' ⟨rfl,⟨nd,rfl⟩⟩;refine ⟨_,rfl, ?_⟩))
  go_ret
  exact ⟨by first|rfl|(simp [aj,ak]<;>rfl)|(simp [*,aj,ak]<;>rfl),bz HB⟩
 rw [av c9] at H
 have wW:((Go.bits .xor .u16 IntKind.u16.max Bh)==0)=false:=fq c9;have O0:((Go.bits .xor .u16 IntKind.u16.max Bh) !=0)=true:=lf c9;obtain rfl:=cN H
 go_enter Try.func72,Try.ntmps72
 go_wp2_with (first|((with_reducible refine aA (N:=5) rfl ?_);refine aC ?hg (N:=5) ?hd (cs:= #[.int .u16 ew,.int .u16 ez,.int .u16 ee,.slice kU gS.length kV]) (t:=83) ?hr ?_;(case hd=>rfl);(case hg=>rfl);(case hr=>first|(go_simp;done)|(go_simp;rfl));intro nI hg BX bJ hb;have aH:=aa.mk (au (bz HB) hb);have aK:=aa.mk (bJ);have bt:=aa.mk ((by rw [hg];exact (af (bz HB)):w.heap.size<=nI));have cC:=aa.mk ((by rw [hg];exact (af (bz HB)):w.heap.size<=nI));clear HB;have HB:=aH;have iU:=aK;have Zk:=bt;have Zl:=cC;clear aH aK bt cC;clear hb bJ hg;have Alp:BX.cell? ⟨nI,0,none⟩=some (.int .u16 ew):=cz iU.out 0 rfl;have Alq:BX.cell? ⟨nI,1,none⟩=some (.int .u16 ez):=cz iU.out 1 rfl;have Alr:BX.cell? ⟨nI,2,none⟩=some (.int .u16 ee):=cz iU.out 2 rfl;have Als:BX.cell? ⟨nI,3,none⟩=some (.slice kU gS.length kV):=cz iU.out 3 rfl;have Alu:=ae iU.out 0;have Alv:=ae iU.out 1;have Alw:=ae iU.out 2;have Alx:=ae iU.out 3)|((with_reducible refine az (f:=48) rfl ?_);refine gL 13 Try.func48 #[.agg #[.int .u16 ew,.int .u16 ez,.int .u16 0,.slice kU gS.length kV]] ?_;(with_reducible refine (cl.calls ew ez 0 _ _ gS DZ Ki _ ?aE ?aG A4.out).mono ?_);(case aE=>exact Kd.aW xj.out (bz HB));(case aG=>exact xk.out);rintro e Fa ⟨Ah9,rfl,gC,hb⟩;refine ⟨_,rfl, ?_⟩;have aH:=aa.mk (Kd.bP gC (af (bz HB)));have aK:=aa.mk (bq (g:=nI) (o:= .cells #[.int .u16 ew,.int .u16 ez,.int .u16 0,.slice kU gS.length kV] 83 (0,0)) (by (with_reducible repeat (first|refine aQ ?_ _|refine aJ ?_|refine aM ?_ _));refine bK (cs:= #[.int .u16 ew,.int .u16 ez,.int .u16 ee,.slice kU gS.length kV]) ?_ 2 _ rfl;(with_reducible repeat (first|refine aQ ?_ _|refine aJ ?_|refine aM ?_ _));exact iU.out) hb);have bt:=aa.mk (au (bz HB) hb);clear iU;clear HB;have tW:=aH;have iU:=aK;have HB:=bt;clear aH aK bt;(try clear hb);(try clear hb2);(try clear hk);(try clear hi);(try clear gC);obtain ⟨WA,WB,AcW⟩:=Kd.dn tW.out;subst AcW)|((with_reducible refine az (f:=82) rfl ?_);refine gL 22 Try.func82 #[.int .u32 a0,.int .u32 a1,.int .u8 17,.int .i64 (DZ.length:Int)] ?_;(with_reducible refine (eC.calls k a0 a1 17 (DZ.length:Int) Fg _ A6.out).mono ?_);rintro e w' ⟨rfl,⟨nd,rfl⟩⟩;refine ⟨_,rfl, ?_⟩)|((with_reducible refine az (f:=80) rfl ?_);refine gL 24 Try.func80 #[.int .u32 Fg,.slice WA DZ.length WB] ?_;(with_reducible refine (bW.calls k Fg _ _ DZ Fh _ ?aE ?aG A7.out).mono ?_);(case aE=>repeat (first|exact (Kd.ay tW.out).2.2|(with_reducible refine Kd.fH ?_ _)|(with_reducible refine Kd.fz ?_ _)|(with_reducible refine Kd.gQ ?_)));(case aG=>exact (Kd.ay tW.out).2.1);rintro e w19 ⟨rfl,hb⟩;refine ⟨_,rfl, ?_⟩;have aH:=aa.mk (Kd.fX (Kd.rz tW) hb);have aK:=aa.mk (bq (kz iU) hb);have bt:=aa.mk (au (bz HB) hb);clear tW;clear iU;clear HB;have tW:=aH;have iU:=aK;have HB:=bt;clear aH aK bt;(try clear hb);(try clear hb2);(try clear hk);(try clear hi))|((with_reducible refine az (f:=79) rfl ?_);refine gL 25 Try.func79 #[.int .u32 Fh] ?_;(with_reducible refine (bE.calls k Fh Bh _ A8.out).mono ?_);rintro e w' ⟨rfl,⟨nd,rfl⟩⟩;refine ⟨_,rfl, ?_⟩))
 go_ret
 exact ⟨by first|rfl|(simp [aj,ak]<;>rfl)|(simp [*,aj,ak]<;>rfl),bz HB⟩
attribute [local go_sem] dI dJ eI eJ cO cP dK dL
def aD.j0:Nat ->Bool ->Int ->Int ->Int ->Int ->Int ->Int ->Int ->Int ->List Int ->List Int ->Option (List Int×Int)
 |0,_,_,_,_,_,_,_,_,_,_,_=>none
 |k+1,x16,WC,WD,WE,WG,WI,WK,WL,WM,CV,Hw=>if x16=true then (some (([]:List Int),21)) else (if (Hw.length:Int)>(wrap64 (65515 - (wrap64 (20+(CV.length:Int))))) then (some (([]:List Int),23)) else ((bp.f ([]:List Int) WC).bind fun Hx=>((bp.f Hx WD).bind fun Hy=>((dM.f Hy WE).bind fun Hz=>((dM.f Hz WG).bind fun Cm=>((some (([(((wrap64 (Int.tdiv (wrap64 (20+(CV.length:Int))) 4)) % 256)*16) % 256,WI]:List Int):List Int)).bind fun xB=>(if Cm.length+xB.length<140737488355328 then ((bp.f (Cm++xB) WK).bind fun D9=>((bp.f D9 WL).bind fun Ea=>((bp.f Ea WM).bind fun Bi=>(if Bi.length+CV.length<140737488355328 then ((some (Bi++CV:List Int)).bind fun Al=>(if Al.length+Hw.length<140737488355328 then (some ((Al++Hw),0)) else (none))) else (none))))) else (none))))))))
def aD.f (k:Nat) (aU:Int) (bh:Int) (bn:Int) (bu:Int) (dP:Int) (dR:Int) (dX:Int) (dY:Int) (bH:List Int) (cE:List Int):Option (List Int×Int):=if ((bH.length:Int) % 4)=0 then (aD.j0 k (decide ((bH.length:Int)>40)) aU bh bn bu dP dR dX dY bH cE) else (aD.j0 k true aU bh bn bu dP dR dX dY bH cE)
def aD.T6:Bool×List (List Nat×List Nat):=(true,[([],[]),([0],[0]),([1],[1]),([],[]),([3],[3]),([2,4,2],[2,4]),([],[]),([6],[6]),([5,7,5],[5,7]),([],[]),([9],[9]),([8,10,8],[8,10]),([11,11,0,1,2,3,4,5,6,7,8,9,10,11],[11])])
def aD.B6:List Nat:=[0,1,3,0,8,31,0,64,255,0,512,2047,4095]
theorem aD.Ap3:gB .any (opsOf Try.f75 6)=aD.T6:=by kernel_rfl
theorem aD.Aid:cS aD.T6.2 aD.B6=true:=by kernel_rfl
def aD.T7:Bool×List (List Nat×List Nat):=(true,[([],[]),([],[]),([1],[1]),([2],[2]),([3],[3]),([],[]),([5],[5]),([4,6],[4,6]),([0,7],[0,7]),([],[]),([9],[9]),([8,10,8],[8,10]),([11,11,0,1,2,3,4,5,6,7,8,9,10,11],[0,11])])
def aD.B7:List Nat:=[0,0,2,6,14,0,32,126,255,0,512,2047,4095]
theorem aD.RF:gB .any (opsOf Try.f75 7)=aD.T7:=by kernel_rfl
theorem aD.Jd:cS aD.T7.2 aD.B7=true:=by kernel_rfl
def aD.T8:Bool×List (List Nat×List Nat):=(true,[([],[]),([],[]),([1],[1]),([0,2],[0,2]),([],[]),([4],[4]),([3,5,3],[3,5]),([6,6,0,1,2,3,4,5,6],[0,6])])
def aD.B8:List Nat:=[0,0,2,7,0,16,63,127]
theorem aD.EZ:gB .any (opsOf Try.f75 8)=aD.T8:=by kernel_rfl
theorem aD.yK:cS aD.T8.2 aD.B8=true:=by kernel_rfl
def aD.T9:Bool×List (List Nat×List Nat):=(true,[([],[]),([],[]),([1],[1]),([0,2],[0,2]),([],[]),([4],[4]),([3,5,3],[3,5]),([6,6,0,1,2,3,4,5,6],[6]),([7,0,1,2,3,4,5,6,7],[])])
def aD.B9:List Nat:=[0,0,2,7,0,16,63,127,255]
theorem aD.AcX:gB .any (opsOf Try.f75 9)=aD.T9:=by kernel_rfl
theorem aD.TJ:cS aD.T9.2 aD.B9=true:=by kernel_rfl
theorem aD.calls (k:Nat) (aU:Int) (bh:Int) (bn:Int) (bu:Int) (dP:Int) (dR:Int) (dX:Int) (dY:Int) (jq:Option Addr) (jr:Nat) (bH:List Int) (js:Option Addr) (ju:Nat) (cE:List Int) (r1:List Int) (r2:Int) (w:World) (tN:Kd.C (Kd.int .u8) w jq bH.length bH) (tO:bH.length<=jr) (tP:Kd.C (Kd.int .u8) w js cE.length cE) (tQ:cE.length<=ju) (h:aD.f k aU bh bn bu dP dR dX dY bH cE=some (r1,r2)):
  Calls Try.prog 75 #[.agg #[.int .u16 aU,.int .u16 bh,.int .u32 bn,.int .u32 bu,.int .u8 dP,.int .u16 dR,.int .u16 dX,.int .u16 dY,.slice jq bH.length jr,.slice js cE.length ju]] w fun e w'=>∃ oW:Value,e= .returned (.tuple #[oW,.int .i64 r2]) /\ Kd.R (Kd.int .u8) 5 w' w.heap.size (fun _=>True) oW r1 /\ Below w.heap.size w w':=by
 have uC:=Try.underlying137;have BI:=aa.mk tN;have JC:=aa.mk tO;clear tN tO;have BJ:=aa.mk tP;have JD:=aa.mk tQ;clear tP tQ;have HB:=gI w;have H:(if ((bH.length:Int) % 4)=0 then (aD.j0 k (decide ((bH.length:Int)>40)) aU bh bn bu dP dR dX dY bH cE) else (aD.j0 k true aU bh bn bu dP dR dX dY bH cE))=some (r1,r2):=h;clear h;have LO:=aa.mk H;clear H
 go_enter Try.func75,Try.ntmps75
 go_upto_region 1 with (first|((with_reducible refine aA (N:=1) rfl ?_);(try (refine eP (by rfl) ?_;dsimp only));refine aC ?hg (N:=1) ?hd (cs:= #[.int .u16 aU,.int .u16 bh,.int .u32 bn,.int .u32 bu,.int .u8 dP,.int .u16 dR,.int .u16 dX,.int .u16 dY,.slice jq bH.length jr,.slice js cE.length ju]) (t:=137) ?hr ?_;(case hd=>rfl);(case hg=>rfl);(case hr=>first|(go_simp;done)|(go_simp;rfl));intro iO hg w3 bJ hb;have aH:=aa.mk (au (bz HB) hb);have aK:=aa.mk (bJ);have bt:=aa.mk ((by rw [hg];exact (af (bz HB)):w.heap.size<=iO));have cC:=aa.mk ((by rw [hg];exact (af (bz HB)):w.heap.size<=iO));clear HB;have HB:=aH;have bk:=aK;have Att:=bt;have Atu:=cC;clear aH aK bt cC;clear hb bJ hg))
 (try simp only [Act.put,List.setIfInBounds_toArray,List.set_cons_zero,List.set_cons_succ])
 go_cut [16] (fun v16 wc=>∃ (kq:Nat) (N9:Bool),v16= .bool N9 /\ aa (aD.j0 kq N9 aU bh bn bu dP dR dX dY bH cE=some (r1,r2)) /\ aa (kq<=k) /\ aa (wc.heap[iO]?=some (.cells #[.int .u16 aU,.int .u16 bh,.int .u32 bn,.int .u32 bu,.int .u8 dP,.int .u16 dR,.int .u16 dX,.int .u16 dY,(.slice jq bH.length jr),(.slice js cE.length ju)] 137 (0,0))) /\ aa (Below w.heap.size w wc))
 case first=>
  have H:=LO.out;clear LO
  by_cases c4:((bH.length:Int) % 4)=0
  ·rw [aq c4] at H
   have mw:(((bH.length:Int) % 4)==0)=true:=fF c4;have yh:(((bH.length:Int) % 4) !=0)=false:=kL c4;clear c4
   (first|rw [mw]|(simp only [gK,kD];rw [mw])|skip)
   have H':=aa.mk H;clear H;have VQ:=ru bk.out;have VR:=ae bk.out
   go_wp2
   go_meet
   case rel=>exact ⟨_,(decide ((bH.length:Int)>40)),(by first|rfl|(simp;done)|(simp [*];done)),H',⟨by first|omega|exact Nat.le_refl _⟩,⟨kz bk⟩,⟨bz HB⟩⟩
  rw [av c4] at H
  have mw:(((bH.length:Int) % 4)==0)=false:=fq c4;have yh:(((bH.length:Int) % 4) !=0)=true:=lf c4
  (first|rw [mw]|(simp only [gK,kD];rw [mw])|skip)
  have H':=aa.mk H;clear H;have Nt:=ru bk.out;have Nu:=ae bk.out
  go_wp2
  go_meet
  case rel=>exact ⟨_,(true),(by first|rfl|(simp;done)|(simp [*];done)),H',⟨by first|omega|exact Nat.le_refl _⟩,⟨kz bk⟩,⟨bz HB⟩⟩
 clear LO;obtain ⟨kq,N9,rfl,HA,HJ1,bk,HB⟩:=hcut
 cases kq with
 |zero=>exact absurd HA.out (by simp [aD.j0])
 |succ Ph=>
  have H:=HA.out;clear HA;simp only [aD.j0] at H
  by_cases c7:N9=true
  ·subst c7
   have H1:(some (([]:List Int),21))=some (r1,r2):=by rw [aq rfl] at H;exact H
   clear H;have H:=H1;clear H1;simp only [Option.some.injEq,Prod.mk.injEq] at H
   obtain ⟨rfl,rfl⟩:=H
   go_wp2
   go_ret2
   exact ⟨_,by first|rfl|(simp [aj,ak]<;>rfl)|(simp [*,aj,ak]<;>rfl),by first|exact Kd.bX _ _ _ _ _|exact Kd.jn _ _ _ _ _|exact Kd.jo _ _ _ _ _|exact Kd.jl _ _ _ _ _|exact Kd.jm _ _ _ _ _,bz HB⟩
  replace c7:=zE c7
  subst c7
  have H1:(if (cE.length:Int)>(wrap64 (65515 - (wrap64 (20+(bH.length:Int))))) then (some (([]:List Int),23)) else ((bp.f ([]:List Int) aU).bind fun Hx=>((bp.f Hx bh).bind fun Hy=>((dM.f Hy bn).bind fun Hz=>((dM.f Hz bu).bind fun Cm=>((some (([(((wrap64 (Int.tdiv (wrap64 (20+(bH.length:Int))) 4)) % 256)*16) % 256,dP]:List Int):List Int)).bind fun xB=>(if Cm.length+xB.length<140737488355328 then ((bp.f (Cm++xB) dR).bind fun D9=>((bp.f D9 dX).bind fun Ea=>((bp.f Ea dY).bind fun Bi=>(if Bi.length+bH.length<140737488355328 then ((some (Bi++bH:List Int)).bind fun Al=>(if Al.length+cE.length<140737488355328 then (some ((Al++cE),0)) else (none))) else (none))))) else (none))))))))=some (r1,r2):=by rw [av (show ¬ (false=true) by decide)] at H;exact H
  clear H;have H:=H1;clear H1
  by_cases c8:(cE.length:Int)>(wrap64 (65515 - (wrap64 (20+(bH.length:Int)))))
  ·rw [aq c8] at H
   have nU:decide ((wrap64 (65515 - (wrap64 (20+(bH.length:Int)))))<(cE.length:Int))=true:=bN c8;clear c8;simp only [Option.some.injEq,Prod.mk.injEq] at H
   obtain ⟨rfl,rfl⟩:=H;have NK:=ru bk.out;have NL:=ae bk.out
   go_wp2
   go_ret2
   exact ⟨_,by first|rfl|(simp [aj,ak]<;>rfl)|(simp [*,aj,ak]<;>rfl),by first|exact Kd.bX _ _ _ _ _|exact Kd.jn _ _ _ _ _|exact Kd.jo _ _ _ _ _|exact Kd.jl _ _ _ _ _|exact Kd.jm _ _ _ _ _,bz HB⟩
  rw [av c8] at H
  have nU:decide ((wrap64 (65515 - (wrap64 (20+(bH.length:Int)))))<(cE.length:Int))=false:=gN c8;clear c8;replace H:=dc H;obtain ⟨Hx,zU,H⟩:=H
  (try dsimp -simprocs only at H)
  have Lz:=aa.mk zU;clear zU;replace H:=dc H;obtain ⟨Hy,Je,H⟩:=H
  (try dsimp -simprocs only at H)
  have A11:=aa.mk Je;clear Je;replace H:=dc H;obtain ⟨Hz,zT,H⟩:=H
  (try dsimp -simprocs only at H)
  have VL:=aa.mk zT;clear zT;replace H:=dc H;obtain ⟨Cm,Ds,H⟩:=H
  (try dsimp -simprocs only at H)
  have Qp:=aa.mk Ds;clear Ds;obtain ⟨xB,Kj⟩:∃ y_:List Int,y_=(([(((wrap64 (Int.tdiv (wrap64 (20+(bH.length:Int))) 4)) % 256)*16) % 256,dP]:List Int)):=⟨_,rfl⟩
  replace H:(if Cm.length+xB.length<140737488355328 then ((bp.f (Cm++xB) dR).bind fun D9=>((bp.f D9 dX).bind fun Ea=>((bp.f Ea dY).bind fun Bi=>(if Bi.length+bH.length<140737488355328 then ((some (Bi++bH:List Int)).bind fun Al=>(if Al.length+cE.length<140737488355328 then (some ((Al++cE),0)) else (none))) else (none))))) else (none))=some (r1,r2):=by first|(rw [Kj];with_reducible exact H)|(have kE:=(bD _ _).symm.trans H;rw [Kj];with_reducible exact kE)|(have kE:=(bD _ _).symm.trans H;with_reducible exact kE)|with_reducible exact H|(rw [Kj];exact H)|exact H
  have Zm:=aa.mk Kj;clear Kj
  by_cases CN:Cm.length+xB.length<140737488355328
  rotate_left
  ·rw [av CN] at H
   cases H
  rw [aq CN] at H
  have Aie:=aa.mk CN;clear CN;obtain ⟨WN,TK⟩:∃ y_:List Int,y_=(Cm++xB):=⟨_,rfl⟩
  rw [<- TK] at H
  have Aif:=aa.mk TK;clear TK;replace H:=dc H;obtain ⟨D9,Eb,H⟩:=H
  (try dsimp -simprocs only at H)
  have A15:=aa.mk Eb;clear Eb;replace H:=dc H;obtain ⟨Ea,wU,H⟩:=H
  (try dsimp -simprocs only at H)
  have Qq:=aa.mk wU;clear wU;replace H:=dc H;obtain ⟨Bi,Jf,H⟩:=H
  (try dsimp -simprocs only at H)
  have Qr:=aa.mk Jf;clear Jf
  by_cases V4:Bi.length+bH.length<140737488355328
  rotate_left
  ·rw [av V4] at H
   cases H
  rw [aq V4] at H
  have Aig:=aa.mk V4;clear V4;obtain ⟨Al,Kk⟩:∃ y_:List Int,y_=(Bi++bH):=⟨_,rfl⟩
  replace H:(if Al.length+cE.length<140737488355328 then (some ((Al++cE),0)) else (none))=some (r1,r2):=by first|(rw [Kk];with_reducible exact H)|(have kE:=(bD _ _).symm.trans H;rw [Kk];with_reducible exact kE)|(have kE:=(bD _ _).symm.trans H;with_reducible exact kE)|with_reducible exact H|(rw [Kk];exact H)|exact H
  have Aih:=aa.mk Kk;clear Kk
  by_cases AW:Al.length+cE.length<140737488355328
  rotate_left
  ·rw [av AW] at H
   cases H
  rw [aq AW] at H
  have Aii:=aa.mk AW;clear AW;obtain ⟨Ap4,Kl⟩:∃ y_:List Int,y_=(Al++cE):=⟨_,rfl⟩
  replace H:(some (Ap4,0))=some (r1,r2):=by first|(rw [Kl];with_reducible exact H)|(have kE:=(bD _ _).symm.trans H;rw [Kl];with_reducible exact kE)|(have kE:=(bD _ _).symm.trans H;with_reducible exact kE)|with_reducible exact H|(rw [Kl];exact H)|exact H
  have Aij:=aa.mk Kl;clear Kl;simp only [Option.some.injEq,Prod.mk.injEq] at H
  obtain ⟨rfl,rfl⟩:=H;have Aik:=ru bk.out;have Ail:=ae bk.out
  try go_wp2
  have aH:=aa.mk (aJ bk.out);have aK:=aa.mk (bf HB.out);clear bk;clear HB;have bk:=aH;have HB:=aK;clear aH aK
  refine dB (n:=13) (S:=fun w'=>w'.cell? ⟨iO,0,none⟩=some (.int .u16 aU) /\ w'.cell? ⟨iO,1,none⟩=some (.int .u16 bh) /\ w'.cell? ⟨iO,2,none⟩=some (.int .u32 bn) /\ w'.cell? ⟨iO,3,none⟩=some (.int .u32 bu) /\ w'.cell? ⟨iO,4,none⟩=some (.int .u8 dP) /\ w'.cell? ⟨iO,5,none⟩=some (.int .u16 dR) /\ w'.cell? ⟨iO,6,none⟩=some (.int .u16 dX) /\ w'.cell? ⟨iO,7,none⟩=some (.int .u16 dY) /\ w'.cell? ⟨iO,8,none⟩=some (.slice jq bH.length jr) /\ w'.cell? ⟨iO,9,none⟩=some (.slice js cE.length ju)) (ds:=[]) #[false,false,false,false,false,false,false,false,false,false,false,false,false] (by kernel_rfl) rfl rfl ⟨cz bk.out 0 rfl,cz bk.out 1 rfl,cz bk.out 2 rfl,cz bk.out 3 rfl,cz bk.out 4 rfl,cz bk.out 5 rfl,cz bk.out 6 rfl,cz bk.out 7 rfl,cz bk.out 8 rfl,cz bk.out 9 rfl⟩ (fun hHeld=> ?_);refine bF aD.Ap3 aD.Aid (fun ax eu=> ?_)
  generalize wc.drew=w21 at bk HB hHeld|-
  refine pz 0 27 ax ?_;refine pz 3 30 ax ?_;refine pz 6 33 ax ?_;refine pz 9 36 ax ?_;refine gF (i:=1) (N:=some 28) (v:= ?_) (a':= ?_) #[true,true,false,true,false,false,true,false,false,true,false,false,false] rfl rfl (dm ax.out eu.out (by kernel_rfl)) (fun _ _ _ h=>h) (Or.inl ⟨by rfl, ?_⟩) hHeld ?_ ?_
  rotate_left
  ·rintro w' ⟨s0,s1,s2,s3,s4,s5,s6,s7,s8,s9⟩
   go_simp
   with_reducible rfl
  rotate_left
  ·simp only [pG]
   rfl
  refine gF (i:=4) (N:=some 31) (v:= ?_) (a':= ?_) #[true,true,false,true,true,false,true,false,false,true,false,false,false] rfl rfl (dm ax.out eu.out (by kernel_rfl)) (fun _ _ _ h=>h) (Or.inl ⟨by rfl, ?_⟩) hHeld ?_ ?_
  rotate_left
  ·rintro w' ⟨s0,s1,s2,s3,s4,s5,s6,s7,s8,s9⟩
   go_simp
   with_reducible rfl
  rotate_left
  ·simp only [pG]
   rfl
  refine gF (i:=7) (N:=some 34) (v:= ?_) (a':= ?_) #[true,true,false,true,true,false,true,true,false,true,false,false,false] rfl rfl (dm ax.out eu.out (by kernel_rfl)) (fun _ _ _ h=>h) (Or.inl ⟨by rfl, ?_⟩) hHeld ?_ ?_
  rotate_left
  ·rintro w' ⟨s0,s1,s2,s3,s4,s5,s6,s7,s8,s9⟩
   go_simp
   with_reducible rfl
  rotate_left
  ·simp only [pG]
   rfl
  refine gF (i:=10) (N:=some 37) (v:= ?_) (a':= ?_) #[true,true,false,true,true,false,true,true,false,true,true,false,false] rfl rfl (dm ax.out eu.out (by kernel_rfl)) (fun _ _ _ h=>h) (Or.inl ⟨by rfl, ?_⟩) hHeld ?_ ?_
  rotate_left
  ·rintro w' ⟨s0,s1,s2,s3,s4,s5,s6,s7,s8,s9⟩
   go_simp
   with_reducible rfl
  rotate_left
  ·simp only [pG]
   rfl
  refine oz 2 (some 29) ax (fun K hK=> ?_);refine gG Try.func83 #[.slice none 0 0,.int .u16 aU] ?_;refine (bp.calls (fun k_=>some k_=(.slice none 0 0:Value).ownBlock) (.slice none 0 0) ([]:List Int) aU Hx w _ ?aE ?aG Lz.out).mono ?_
  (case aE=>exact bz HB)
  (case aG=>exact Kd.bX _ _ _ _ _)
  rintro e Qu ⟨Aw3,rfl,gC,hb,hkp⟩;refine ⟨_,rfl, ?_⟩;have aH:=aa.mk (ja (kz bk) hkp (fun hs_=>(fun e_=>by simp [Value.ownBlock] at e_) hs_));have aK:=aa.mk (Kd.dA (ok':=fun k_=>True) gC (fun k_ mo=>trivial));have bt:=aa.mk (hb);clear bk;clear HB;have bk:=aH;have Oa:=aK;have HB:=bt;clear aH aK bt
  (try clear hb)
  (try clear hkp)
  (try clear gC)
  obtain ⟨AcZ,WO,TL⟩:=Kd.dn Oa.out
  (first|subst TL|(injection TL with mT ry mU;have rA:=mT.symm;have rB:=mU.symm;clear mT ry mU;subst rA;subst rB))
  refine hK.out _ _ ⟨cz bk.out 0 rfl,cz bk.out 1 rfl,cz bk.out 2 rfl,cz bk.out 3 rfl,cz bk.out 4 rfl,cz bk.out 5 rfl,cz bk.out 6 rfl,cz bk.out 7 rfl,cz bk.out 8 rfl,cz bk.out 9 rfl⟩ (fun hHeld=> ?_);clear hK K;refine nz 29 ?_;refine oz 5 (some 32) ax (fun K hK=> ?_);refine gG Try.func83 #[.slice AcZ Hx.length WO,.int .u16 bh] ?_
  with_reducible refine (bp.calls (fun k_=>some k_=(.slice AcZ Hx.length WO:Value).ownBlock) (.slice AcZ Hx.length WO) Hx bh Hy w _ ?aE ?aG A11.out).mono ?_
  (case aE=>exact bz HB)
  (case aG=>exact Kd.kF rfl Oa.out)
  rintro e Ir ⟨Aw4,rfl,gC,hb,hkp⟩;refine ⟨_,rfl, ?_⟩;have aH:=aa.mk (ja (kz bk) hkp (fun hs_=>(fun e_=>(Kd.nk Oa.out bk.out (by decide)) e_) hs_));have aK:=aa.mk (Kd.dA (ok':=fun k_=>True) gC (fun k_ mo=>trivial));have bt:=aa.mk (hb);clear bk;clear HB;clear Oa;have bk:=aH;have Ob:=aK;have HB:=bt;clear aH aK bt
  (try clear hb)
  (try clear hkp)
  (try clear gC)
  obtain ⟨Ac0,Ac1,Aim⟩:=Kd.dn Ob.out
  (first|subst Aim|(injection Aim with mT ry mU;have rA:=mT.symm;have rB:=mU.symm;clear mT ry mU;subst rA;subst rB))
  refine hK.out _ _ ⟨cz bk.out 0 rfl,cz bk.out 1 rfl,cz bk.out 2 rfl,cz bk.out 3 rfl,cz bk.out 4 rfl,cz bk.out 5 rfl,cz bk.out 6 rfl,cz bk.out 7 rfl,cz bk.out 8 rfl,cz bk.out 9 rfl⟩ (fun hHeld=> ?_);clear hK K;refine nz 32 ?_;refine oz 8 (some 35) ax (fun K hK=> ?_);refine gG Try.func84 #[.slice Ac0 Hy.length Ac1,.int .u32 bn] ?_
  with_reducible refine (dM.calls (fun k_=>some k_=(.slice Ac0 Hy.length Ac1:Value).ownBlock) (.slice Ac0 Hy.length Ac1) Hy bn Hz w _ ?aE ?aG VL.out).mono ?_
  (case aE=>exact bz HB)
  (case aG=>exact Kd.kF rfl Ob.out)
  rintro e w26 ⟨Aw5,rfl,gC,hb,hkp⟩;refine ⟨_,rfl, ?_⟩;have aH:=aa.mk (ja (kz bk) hkp (fun hs_=>(fun e_=>(Kd.nk Ob.out bk.out (by decide)) e_) hs_));have aK:=aa.mk (Kd.dA (ok':=fun k_=>True) gC (fun k_ mo=>trivial));have bt:=aa.mk (hb);clear bk;clear HB;clear Ob;have bk:=aH;have Oc:=aK;have HB:=bt;clear aH aK bt
  (try clear hb)
  (try clear hkp)
  (try clear gC)
  obtain ⟨Km,Kn,TM⟩:=Kd.dn Oc.out
  (first|subst TM|(injection TM with mT ry mU;have rA:=mT.symm;have rB:=mU.symm;clear mT ry mU;subst rA;subst rB))
  refine hK.out _ _ ⟨cz bk.out 0 rfl,cz bk.out 1 rfl,cz bk.out 2 rfl,cz bk.out 3 rfl,cz bk.out 4 rfl,cz bk.out 5 rfl,cz bk.out 6 rfl,cz bk.out 7 rfl,cz bk.out 8 rfl,cz bk.out 9 rfl⟩ (fun hHeld=> ?_);clear hK K;refine nz 35 ?_;refine oz 11 (some 38) ax (fun K hK=> ?_);refine gG Try.func84 #[.slice Km Hz.length Kn,.int .u32 bu] ?_
  with_reducible refine (dM.calls (fun k_=>some k_=(.slice Km Hz.length Kn:Value).ownBlock) (.slice Km Hz.length Kn) Hz bu Cm w _ ?aE ?aG Qp.out).mono ?_
  (case aE=>exact bz HB)
  (case aG=>exact Kd.kF rfl Oc.out)
  rintro e w28 ⟨Ap5,rfl,gC,hb,hkp⟩;refine ⟨_,rfl, ?_⟩;have aH:=aa.mk (ja (kz bk) hkp (fun hs_=>(fun e_=>(Kd.nk Oc.out bk.out (by decide)) e_) hs_));have aK:=aa.mk (Kd.dA (ok':=fun k_=>True) gC (fun k_ mo=>trivial));have bt:=aa.mk (hb);clear bk;clear HB;clear Oc;have bk:=aH;have xC:=aK;have HB:=bt;clear aH aK bt
  (try clear hb)
  (try clear hkp)
  (try clear gC)
  refine hK.out _ _ ⟨cz bk.out 0 rfl,cz bk.out 1 rfl,cz bk.out 2 rfl,cz bk.out 3 rfl,cz bk.out 4 rfl,cz bk.out 5 rfl,cz bk.out 6 rfl,cz bk.out 7 rfl,cz bk.out 8 rfl,cz bk.out 9 rfl⟩ (fun hHeld=> ?_);clear hK K;refine nz 38 ?_;refine pz 12 5 ax ?_;refine dz ax ?_
  try go_wp2
  have aH:=aa.mk (Kd.fj xC.out);have aK:=aa.mk (aJ bk.out);have bt:=aa.mk (bf HB.out);clear xC;clear bk;clear HB;have xC:=aH;have bk:=aK;have HB:=bt;clear aH aK bt
  refine dB (n:=13) (S:=fun w'=>w'.cell? ⟨iO,0,none⟩=some (.int .u16 aU) /\ w'.cell? ⟨iO,1,none⟩=some (.int .u16 bh) /\ w'.cell? ⟨iO,2,none⟩=some (.int .u32 bn) /\ w'.cell? ⟨iO,3,none⟩=some (.int .u32 bu) /\ w'.cell? ⟨iO,4,none⟩=some (.int .u8 dP) /\ w'.cell? ⟨iO,5,none⟩=some (.int .u16 dR) /\ w'.cell? ⟨iO,6,none⟩=some (.int .u16 dX) /\ w'.cell? ⟨iO,7,none⟩=some (.int .u16 dY) /\ w'.cell? ⟨iO,8,none⟩=some (.slice jq bH.length jr) /\ w'.cell? ⟨iO,9,none⟩=some (.slice js cE.length ju)) (ds:=[]) #[false,false,false,false,false,false,false,false,false,false,false,false,false] (by kernel_rfl) rfl rfl ⟨cz bk.out 0 rfl,cz bk.out 1 rfl,cz bk.out 2 rfl,cz bk.out 3 rfl,cz bk.out 4 rfl,cz bk.out 5 rfl,cz bk.out 6 rfl,cz bk.out 7 rfl,cz bk.out 8 rfl,cz bk.out 9 rfl⟩ (fun hHeld=> ?_);refine bF aD.RF aD.Jd (fun ax eu=> ?_)
  generalize w28.drew=w29 at xC bk HB hHeld|-
  refine pz 0 39 ax ?_;refine pz 1 40 ax ?_;refine pz 2 41 ax ?_;refine pz 3 42 ax ?_;refine pz 4 43 ax ?_;refine pz 5 44 ax ?_;refine pz 9 48 ax ?_;refine gF (i:=6) (N:=some 45) (v:= ?_) (a':= ?_) #[true,true,true,true,true,true,true,false,false,true,false,false,false] rfl rfl (dm ax.out eu.out (by kernel_rfl)) (fun _ _ _ h=>h) (Or.inl ⟨by rfl, ?_⟩) hHeld ?_ ?_
  rotate_left
  ·rintro w' ⟨s0,s1,s2,s3,s4,s5,s6,s7,s8,s9⟩
   go_simp
   with_reducible rfl
  rotate_left
  ·simp only [pG]
   rfl
  refine gF (i:=10) (N:=some 49) (v:= ?_) (a':= ?_) #[true,true,true,true,true,true,true,false,false,true,true,false,false] rfl rfl (dm ax.out eu.out (by kernel_rfl)) (fun _ _ _ h=>h) (Or.inl ⟨by rfl, ?_⟩) hHeld ?_ ?_
  rotate_left
  ·rintro w' ⟨s0,s1,s2,s3,s4,s5,s6,s7,s8,s9⟩
   go_simp
   with_reducible rfl
  rotate_left
  ·simp only [pG]
   rfl
  refine oz 7 (some 46) ax (fun K hK=> ?_)
  refine Kd.qm (Kd.int .u8) _ 5 ?hg (N:=46) ?hd (xs:=([(((wrap64 (Int.tdiv (wrap64 (20+(bH.length:Int))) 4)) % 256)*16) % 256,dP]:List Int)) (inner:=[.int .u8 ((((wrap64 (Int.tdiv (wrap64 (20+(bH.length:Int))) 4)) % 256)*16) % 256),.int .u8 dP]) (ok:=fun _=>True) (qW:=fun _=>True) ?hr ?hp (fun _ hk=>hk) trivial (Below.refl _ _) (Nat.le_refl _) (by simp) ?_;(case hd=>rfl);(case hg=>rfl);(case hr=>first|(go_simp;done)|(go_simp;simp only [IntKind.wrap_u8,IntKind.wrap_u16,IntKind.wrap_u32];done)|(go_simp;rfl));(case hp=>exact (cD.one (show Kd.M (Kd.int .u8) _ _ _ ((((wrap64 (Int.tdiv (wrap64 (20+(bH.length:Int))) 4)) % 256)*16) % 256) [.int .u8 ((((wrap64 (Int.tdiv (wrap64 (20+(bH.length:Int))) 4)) % 256)*16) % 256)] from rfl) (cD.one (show Kd.M (Kd.int .u8) _ _ _ dP [.int .u8 dP] from rfl) (cD.none _ _))))
  intro Aw6 Pj PD hb fT iN;clear fT iN
  (first|rw [<- Zm.out] at PD|(simp only [Int.reduceToNat] at PD;rw [<- Zm.out] at PD))
  have aH:=aa.mk (Kd.mQ (Kd.rz xC) (Kd.j3 PD) hb);have aK:=aa.mk (Kd.bP (Kd.qZ PD (Kd.ox (Kd.rz xC))) (af (bz HB)));have bt:=aa.mk (bq (kz bk) hb);have cC:=aa.mk (au (bz HB) hb);clear xC;clear bk;clear HB;have xC:=aH;have jv:=aK;have bk:=bt;have HB:=cC;clear aH aK bt cC;clear hb PD;obtain ⟨Bf,Aa,E7⟩:=Kd.dn jv.out
  (first|subst E7|(injection E7 with mT ry mU;have rA:=mT.symm;have rB:=mU.symm;clear mT ry mU;subst rA;subst rB))
  refine hK.out _ _ ⟨cz bk.out 0 rfl,cz bk.out 1 rfl,cz bk.out 2 rfl,cz bk.out 3 rfl,cz bk.out 4 rfl,cz bk.out 5 rfl,cz bk.out 6 rfl,cz bk.out 7 rfl,cz bk.out 8 rfl,cz bk.out 9 rfl⟩ (fun hHeld=> ?_);clear hK K;refine nz 46 ?_;refine oz 8 (some 47) ax (fun K hK=> ?_);refine Kd.jw (Kd.int .u8) (w0:=w) w.heap.size (by rfl) (.tmp 39) (.tmp 46) 23 5 (.int .u8 0) 1 rfl Try.underlying23 fY rfl (by decide) (by omega) Ap5 Cm xB _ _ _ (fun k_=>some k_≠(.slice Bf xB.length Aa:Value).ownBlock) (fun _=>False) rfl rfl ?aO ?aR (fun _ _ h=>h) (fun _ h=>h.elim) ?aF ?aB ?aS ?aL ?_
  (case aR=>repeat (first|exact (Kd.ay jv.out).2.2|(with_reducible refine Kd.fH ?_ _)|(with_reducible refine Kd.fz ?_ _)|(with_reducible refine Kd.gQ ?_)))
  (case aB=>exact bz HB)
  (case aF=>exact (fun k_ hk=>Kd.mG (Kd.ox (Kd.rz jv)) k_ hk))
  (case aO=>exact (by (with_reducible repeat (first|apply Kd.fg|apply Kd.eV|apply Kd.fj));exact Kd.dA xC.out (fun _ hk=>hk.2)))
  (case aS=>exact (af (bz HB)))
  (case aL=>have:=Aie.out;omega)
  intro Aw7 w32 ho hb hg hat;rw [<- Aif.out] at ho
  have aH:=aa.mk (gW (kz bk) hg (Kd.nk xC.out bk.out (by decide)));have aK:=aa.mk (Kd.nS (ok:=(fun _=>True)) (Kd.rz jv) hg hat);have bt:=aa.mk (hb);have cC:=aa.mk (ho);clear bk;clear jv;clear HB;clear xC;have bk:=aH;have jv:=aK;have HB:=bt;have Od:=cC;clear aH aK bt cC;clear ho hb hg hat;obtain ⟨Ac2,Ac3,Ain⟩:=Kd.dn Od.out
  (first|subst Ain|(injection Ain with mT ry mU;have rA:=mT.symm;have rB:=mU.symm;clear mT ry mU;subst rA;subst rB))
  refine hK.out _ _ ⟨cz bk.out 0 rfl,cz bk.out 1 rfl,cz bk.out 2 rfl,cz bk.out 3 rfl,cz bk.out 4 rfl,cz bk.out 5 rfl,cz bk.out 6 rfl,cz bk.out 7 rfl,cz bk.out 8 rfl,cz bk.out 9 rfl⟩ (fun hHeld=> ?_);clear hK K;refine nz 47 ?_;refine oz 11 (some 50) ax (fun K hK=> ?_);refine gG Try.func83 #[.slice Ac2 WN.length Ac3,.int .u16 dR] ?_
  with_reducible refine (bp.calls (fun k_=>some k_=(.slice Ac2 WN.length Ac3:Value).ownBlock) (.slice Ac2 WN.length Ac3) WN dR D9 w _ ?aE ?aG A15.out).mono ?_
  (case aE=>exact bz HB)
  (case aG=>exact Kd.kF rfl Od.out)
  rintro e AX ⟨Ap6,rfl,gC,hb,hkp⟩;refine ⟨_,rfl, ?_⟩;have aH:=aa.mk (ja (kz bk) hkp (fun hs_=>(fun e_=>(Kd.nk Od.out bk.out (by decide)) e_) hs_));have aK:=aa.mk (Kd.dA (ok':=fun k_=>some k_≠(Ap6:Value).ownBlock) (Kd.xP (jv.out) hkp (fun k_ mo hs_=>(mo.2) hs_)) (fun k_ mo=>fun e_=>Or.elim (gC.1 k_ e_.symm) (fun hs_=>mo.2.1 hs_) (fun BN=>Nat.not_le.2 mo.2.2 BN)));have bt:=aa.mk (Kd.dA (ok':=fun k_=>some k_≠(.slice Bf xB.length Aa:Value).ownBlock) gC (fun k_ mo=>Or.elim mo (fun hs_=>fun e_=>(((jv.out).1 k_ e_.symm).2) hs_) (fun BN=>(Kd.mG (Kd.ox (Kd.rz jv)) k_ BN))));have cC:=aa.mk (hb);clear bk;clear jv;clear HB;clear Od;have bk:=aH;have jv:=aK;have BO:=bt;have HB:=cC;clear aH aK bt cC
  (try clear hb)
  (try clear hkp)
  (try clear gC)
  refine hK.out _ _ ⟨cz bk.out 0 rfl,cz bk.out 1 rfl,cz bk.out 2 rfl,cz bk.out 3 rfl,cz bk.out 4 rfl,cz bk.out 5 rfl,cz bk.out 6 rfl,cz bk.out 7 rfl,cz bk.out 8 rfl,cz bk.out 9 rfl⟩ (fun hHeld=> ?_);clear hK K;refine nz 50 ?_;refine pz 12 5 ax ?_;refine dz ax ?_
  try go_wp2
  have aH:=aa.mk (Kd.fj jv.out);have aK:=aa.mk (Kd.fj BO.out);have bt:=aa.mk (aJ bk.out);have cC:=aa.mk (bf HB.out);clear jv;clear BO;clear bk;clear HB;have jv:=aH;have BO:=aK;have bk:=bt;have HB:=cC;clear aH aK bt cC;obtain ⟨Ac4,Ac5,Aio⟩:=Kd.dn BO.out
  (first|subst Aio|(injection Aio with mT ry mU;have rA:=mT.symm;have rB:=mU.symm;clear mT ry mU;subst rA;subst rB))
  refine dB (n:=8) (S:=fun w'=>w'.cell? ⟨iO,0,none⟩=some (.int .u16 aU) /\ w'.cell? ⟨iO,1,none⟩=some (.int .u16 bh) /\ w'.cell? ⟨iO,2,none⟩=some (.int .u32 bn) /\ w'.cell? ⟨iO,3,none⟩=some (.int .u32 bu) /\ w'.cell? ⟨iO,4,none⟩=some (.int .u8 dP) /\ w'.cell? ⟨iO,5,none⟩=some (.int .u16 dR) /\ w'.cell? ⟨iO,6,none⟩=some (.int .u16 dX) /\ w'.cell? ⟨iO,7,none⟩=some (.int .u16 dY) /\ w'.cell? ⟨iO,8,none⟩=some (.slice jq bH.length jr) /\ w'.cell? ⟨iO,9,none⟩=some (.slice js cE.length ju)) (ds:=[]) #[false,false,false,false,false,false,false,false] (by kernel_rfl) rfl rfl ⟨cz bk.out 0 rfl,cz bk.out 1 rfl,cz bk.out 2 rfl,cz bk.out 3 rfl,cz bk.out 4 rfl,cz bk.out 5 rfl,cz bk.out 6 rfl,cz bk.out 7 rfl,cz bk.out 8 rfl,cz bk.out 9 rfl⟩ (fun hHeld=> ?_);refine bF aD.EZ aD.yK (fun ax eu=> ?_)
  generalize AX.drew=VM at jv BO bk HB hHeld|-
  refine pz 0 51 ax ?_;refine pz 1 52 ax ?_;refine pz 4 55 ax ?_;refine gF (i:=2) (N:=some 53) (v:= ?_) (a':= ?_) #[true,true,true,false,true,false,false,false] rfl rfl (dm ax.out eu.out (by kernel_rfl)) (fun _ _ _ h=>h) (Or.inl ⟨by rfl, ?_⟩) hHeld ?_ ?_
  rotate_left
  ·rintro w' ⟨s0,s1,s2,s3,s4,s5,s6,s7,s8,s9⟩
   go_simp
   with_reducible rfl
  rotate_left
  ·simp only [pG]
   rfl
  refine gF (i:=5) (N:=some 56) (v:= ?_) (a':= ?_) #[true,true,true,false,true,true,false,false] rfl rfl (dm ax.out eu.out (by kernel_rfl)) (fun _ _ _ h=>h) (Or.inl ⟨by rfl, ?_⟩) hHeld ?_ ?_
  rotate_left
  ·rintro w' ⟨s0,s1,s2,s3,s4,s5,s6,s7,s8,s9⟩
   go_simp
   with_reducible rfl
  rotate_left
  ·simp only [pG]
   rfl
  refine oz 3 (some 54) ax (fun K hK=> ?_);refine gG Try.func83 #[.slice Ac4 D9.length Ac5,.int .u16 dX] ?_
  with_reducible refine (bp.calls (fun k_=>some k_=(.slice Ac4 D9.length Ac5:Value).ownBlock) (.slice Ac4 D9.length Ac5) D9 dX Ea w _ ?aE ?aG Qq.out).mono ?_
  (case aE=>exact bz HB)
  (case aG=>exact Kd.kF rfl BO.out)
  rintro e w38 ⟨Ap7,rfl,gC,hb,hkp⟩;refine ⟨_,rfl, ?_⟩;have aH:=aa.mk (ja (kz bk) hkp (fun hs_=>(fun e_=>(Kd.nk BO.out bk.out (by decide)) e_) hs_));have aK:=aa.mk (Kd.dA (ok':=fun k_=>some k_≠(Ap7:Value).ownBlock) (Kd.xP (jv.out) hkp (fun k_ mo hs_=>(mo) hs_)) (fun k_ mo=>fun e_=>Or.elim (gC.1 k_ e_.symm) (fun hs_=>mo.2.1 hs_) (fun BN=>Nat.not_le.2 mo.2.2 BN)));have bt:=aa.mk (Kd.dA (ok':=fun k_=>some k_≠(.slice Bf xB.length Aa:Value).ownBlock) gC (fun k_ mo=>Or.elim mo (fun hs_=>fun e_=>(((jv.out).1 k_ e_.symm)) hs_) (fun BN=>(Kd.mG (Kd.ox (Kd.rz jv)) k_ BN))));have cC:=aa.mk (hb);clear bk;clear jv;clear HB;clear BO;have bk:=aH;have jv:=aK;have Oe:=bt;have HB:=cC;clear aH aK bt cC
  (try clear hb)
  (try clear hkp)
  (try clear gC)
  obtain ⟨Hi,Aj,Ma⟩:=Kd.dn Oe.out
  (first|subst Ma|(injection Ma with mT ry mU;have rA:=mT.symm;have rB:=mU.symm;clear mT ry mU;subst rA;subst rB))
  refine hK.out _ _ ⟨cz bk.out 0 rfl,cz bk.out 1 rfl,cz bk.out 2 rfl,cz bk.out 3 rfl,cz bk.out 4 rfl,cz bk.out 5 rfl,cz bk.out 6 rfl,cz bk.out 7 rfl,cz bk.out 8 rfl,cz bk.out 9 rfl⟩ (fun hHeld=> ?_);clear hK K;refine nz 54 ?_;refine oz 6 (some 57) ax (fun K hK=> ?_);refine gG Try.func83 #[.slice Hi Ea.length Aj,.int .u16 dY] ?_
  with_reducible refine (bp.calls (fun k_=>some k_=(.slice Hi Ea.length Aj:Value).ownBlock) (.slice Hi Ea.length Aj) Ea dY Bi w _ ?aE ?aG Qr.out).mono ?_
  (case aE=>exact bz HB)
  (case aG=>exact Kd.kF rfl Oe.out)
  rintro e Du ⟨Aip,rfl,gC,hb,hkp⟩;refine ⟨_,rfl, ?_⟩;have aH:=aa.mk (ja (kz bk) hkp (fun hs_=>(fun e_=>(Kd.nk Oe.out bk.out (by decide)) e_) hs_));have aK:=aa.mk (Kd.dA (ok':=fun k_=>some k_≠(Aip:Value).ownBlock) (Kd.xP (jv.out) hkp (fun k_ mo hs_=>(mo) hs_)) (fun k_ mo=>fun e_=>Or.elim (gC.1 k_ e_.symm) (fun hs_=>mo.2.1 hs_) (fun BN=>Nat.not_le.2 mo.2.2 BN)));have bt:=aa.mk (Kd.dA (ok':=fun k_=>some k_≠(.slice Bf xB.length Aa:Value).ownBlock) gC (fun k_ mo=>Or.elim mo (fun hs_=>fun e_=>(((jv.out).1 k_ e_.symm)) hs_) (fun BN=>(Kd.mG (Kd.ox (Kd.rz jv)) k_ BN))));have cC:=aa.mk (hb);clear bk;clear jv;clear HB;clear Oe;have bk:=aH;have jv:=aK;have Ec:=bt;have HB:=cC;clear aH aK bt cC
  (try clear hb)
  (try clear hkp)
  (try clear gC)
  refine hK.out _ _ ⟨cz bk.out 0 rfl,cz bk.out 1 rfl,cz bk.out 2 rfl,cz bk.out 3 rfl,cz bk.out 4 rfl,cz bk.out 5 rfl,cz bk.out 6 rfl,cz bk.out 7 rfl,cz bk.out 8 rfl,cz bk.out 9 rfl⟩ (fun hHeld=> ?_);clear hK K;refine nz 57 ?_;refine pz 7 5 ax ?_;refine dz ax ?_
  try go_wp2
  have aH:=aa.mk (Kd.fj jv.out);have aK:=aa.mk (Kd.fj Ec.out);have bt:=aa.mk (aJ bk.out);have cC:=aa.mk (bf HB.out);clear jv;clear Ec;clear bk;clear HB;have jv:=aH;have Ec:=aK;have bk:=bt;have HB:=cC;clear aH aK bt cC
  refine dB (n:=9) (S:=fun w'=>w'.cell? ⟨iO,0,none⟩=some (.int .u16 aU) /\ w'.cell? ⟨iO,1,none⟩=some (.int .u16 bh) /\ w'.cell? ⟨iO,2,none⟩=some (.int .u32 bn) /\ w'.cell? ⟨iO,3,none⟩=some (.int .u32 bu) /\ w'.cell? ⟨iO,4,none⟩=some (.int .u8 dP) /\ w'.cell? ⟨iO,5,none⟩=some (.int .u16 dR) /\ w'.cell? ⟨iO,6,none⟩=some (.int .u16 dX) /\ w'.cell? ⟨iO,7,none⟩=some (.int .u16 dY) /\ w'.cell? ⟨iO,8,none⟩=some (.slice jq bH.length jr) /\ w'.cell? ⟨iO,9,none⟩=some (.slice js cE.length ju)) (ds:=[]) #[false,false,false,false,false,false,false,false,false] (by kernel_rfl) rfl rfl ⟨cz bk.out 0 rfl,cz bk.out 1 rfl,cz bk.out 2 rfl,cz bk.out 3 rfl,cz bk.out 4 rfl,cz bk.out 5 rfl,cz bk.out 6 rfl,cz bk.out 7 rfl,cz bk.out 8 rfl,cz bk.out 9 rfl⟩ (fun hHeld=> ?_);refine bF aD.AcX aD.TJ (fun ax eu=> ?_)
  generalize Du.drew=w41 at jv Ec bk HB hHeld|-
  refine pz 0 58 ax ?_;refine pz 1 59 ax ?_;refine pz 4 62 ax ?_;refine gF (i:=2) (N:=some 60) (v:= ?_) (a':= ?_) #[true,true,true,false,true,false,false,false,false] rfl rfl (dm ax.out eu.out (by kernel_rfl)) (fun _ _ _ h=>h) (Or.inl ⟨by rfl, ?_⟩) hHeld ?_ ?_
  rotate_left
  ·rintro w' ⟨s0,s1,s2,s3,s4,s5,s6,s7,s8,s9⟩
   go_simp
   with_reducible rfl
  rotate_left
  ·simp only [pG]
   rfl
  refine gF (i:=5) (N:=some 63) (v:= ?_) (a':= ?_) #[true,true,true,false,true,true,false,false,false] rfl rfl (dm ax.out eu.out (by kernel_rfl)) (fun _ _ _ h=>h) (Or.inl ⟨by rfl, ?_⟩) hHeld ?_ ?_
  rotate_left
  ·rintro w' ⟨s0,s1,s2,s3,s4,s5,s6,s7,s8,s9⟩
   go_simp
   with_reducible rfl
  rotate_left
  ·simp only [pG]
   rfl
  refine oz 3 (some 61) ax (fun K hK=> ?_);refine Kd.jw (Kd.int .u8) (w0:=w) w.heap.size (by rfl) (.tmp 58) (.tmp 60) 23 5 (.int .u8 0) 1 rfl Try.underlying23 fY rfl (by decide) (by omega) Aip Bi bH _ _ _ (fun k_=>some k_≠(.slice Bf xB.length Aa:Value).ownBlock) (fun _=>False) rfl rfl ?aO ?aR (fun _ _ h=>h) (fun _ h=>h.elim) ?aF ?aB ?aS ?aL ?_
  (case aR=>exact Kd.aW BI.out (bz HB))
  (case aB=>exact bz HB)
  (case aF=>exact (fun k_ hk=>Kd.mG (Kd.ox (Kd.rz jv)) k_ hk))
  (case aO=>exact (Kd.rz Ec))
  (case aS=>exact (af (bz HB)))
  (case aL=>have:=Aig.out;omega)
  intro Ap8 SL ho hb hg hat;rw [<- Aih.out] at ho
  have aH:=aa.mk (gW (kz bk) hg (Kd.nk Ec.out bk.out (by decide)));have aK:=aa.mk (Kd.nS (ok:=(fun _=>True)) (by (with_reducible repeat (first|apply Kd.fg|apply Kd.eV|apply Kd.fj));exact Kd.dA jv.out (fun _ hk=>⟨trivial,hk⟩)) hg hat);have bt:=aa.mk (hb);have cC:=aa.mk (ho);clear bk;clear jv;clear HB;clear Ec;have bk:=aH;have jv:=aK;have HB:=bt;have TN:=cC;clear aH aK bt cC;clear ho hb hg hat;refine hK.out _ _ ⟨cz bk.out 0 rfl,cz bk.out 1 rfl,cz bk.out 2 rfl,cz bk.out 3 rfl,cz bk.out 4 rfl,cz bk.out 5 rfl,cz bk.out 6 rfl,cz bk.out 7 rfl,cz bk.out 8 rfl,cz bk.out 9 rfl⟩ (fun hHeld=> ?_);clear hK K;refine nz 61 ?_;refine oz 6 (some 64) ax (fun K hK=> ?_)
  refine Kd.jw (Kd.int .u8) (w0:=w) w.heap.size (by rfl) (.tmp 61) (.tmp 63) 23 5 (.int .u8 0) 1 rfl Try.underlying23 fY rfl (by decide) (by omega) Ap8 Al cE _ _ _ (fun k_=>some k_≠(.slice Bf xB.length Aa:Value).ownBlock) (fun _=>False) rfl rfl ?aO ?aR (fun _ _ h=>h) (fun _ h=>h.elim) ?aF ?aB ?aS ?aL ?_
  (case aR=>exact Kd.aW BJ.out (bz HB))
  (case aB=>exact bz HB)
  (case aF=>exact (fun k_ hk=>Kd.mG (Kd.ox (Kd.rz jv)) k_ hk))
  (case aO=>exact (Kd.rz TN))
  (case aS=>exact (af (bz HB)))
  (case aL=>have:=Aii.out;omega)
  intro Aw8 w43 ho hb hg hat;rw [<- Aij.out] at ho
  have aH:=aa.mk (gW (kz bk) hg (Kd.nk TN.out bk.out (by decide)));have aK:=aa.mk (Kd.nS (ok:=(fun _=>True)) (Kd.rz jv) hg hat);have bt:=aa.mk (hb);have cC:=aa.mk (ho);clear bk;clear jv;clear HB;clear TN;have bk:=aH;have jv:=aK;have HB:=bt;have Aiq:=cC;clear aH aK bt cC;clear ho hb hg hat;refine hK.out _ _ ⟨cz bk.out 0 rfl,cz bk.out 1 rfl,cz bk.out 2 rfl,cz bk.out 3 rfl,cz bk.out 4 rfl,cz bk.out 5 rfl,cz bk.out 6 rfl,cz bk.out 7 rfl,cz bk.out 8 rfl,cz bk.out 9 rfl⟩ (fun hHeld=> ?_);clear hK K;refine nz 64 ?_;refine pz 7 2 ax ?_;refine pz 8 3 ax ?_;refine dz ax ?_
  try go_wp2
  go_ret2
  exact ⟨_,by first|rfl|(simp [aj,ak]<;>rfl)|(simp [*,aj,ak]<;>rfl),by (with_reducible repeat (first|apply Kd.fg|apply Kd.eV|apply Kd.fj));exact Kd.dA Aiq.out (fun _ hk=>trivial),bz HB⟩
attribute [local go_sem] dI dJ eI eJ cO cP dK dL
def iR.f (k:Nat) (a0:Int) (a1:Int) (ew:Int) (ez:Int) (ee:Int) (jg:Int) (jh:Int) (ji:Int) (kB:Int) (jj:Int) (iz:List Int) (iA:List Int):Option (Int):=(aD.f k ew ez ee jg jh ji 0 jj iz iA).bind fun Ed=>(if Ed.2=0 then ((eC.f k a0 a1 6 (Ed.1.length:Int)).bind fun Mo=>((bW.f k Mo Ed.1).bind fun Mp=>((bE.f k Mp).bind fun TP=>(some (Go.bits .xor .u16 IntKind.u16.max TP))))) else (some 0))
theorem iR.calls (k:Nat) (a0:Int) (a1:Int) (ew:Int) (ez:Int) (ee:Int) (jg:Int) (jh:Int) (ji:Int) (kB:Int) (jj:Int) (nl:Option Addr) (nn:Nat) (iz:List Int) (nr:Option Addr) (nu:Nat) (iA:List Int) (r:Int) (w:World) (xm:Kd.C (Kd.int .u8) w nl iz.length iz) (xo:iz.length<=nn) (xp:Kd.C (Kd.int .u8) w nr iA.length iA) (xq:iA.length<=nu) (h:iR.f k a0 a1 ew ez ee jg jh ji kB jj iz iA=some r):
  Calls Try.prog 74 #[.int .u32 a0,.int .u32 a1,.agg #[.int .u16 ew,.int .u16 ez,.int .u32 ee,.int .u32 jg,.int .u8 jh,.int .u16 ji,.int .u16 kB,.int .u16 jj,.slice nl iz.length nn,.slice nr iA.length nu]] w fun e w'=>e= .returned (.int .u16 r) /\ Below w.heap.size w w':=by
 have uC:=Try.underlying137;have zQ:IntKind.u16.signed=false:=rfl;have yO:=aa.mk xm;have yP:=aa.mk xo;clear xm xo;have yQ:=aa.mk xp;have yR:=aa.mk xq;clear xp xq;have HB:=gI w;have H:((aD.f k ew ez ee jg jh ji 0 jj iz iA).bind fun Ed=>(if Ed.2=0 then ((eC.f k a0 a1 6 (Ed.1.length:Int)).bind fun Mo=>((bW.f k Mo Ed.1).bind fun Mp=>((bE.f k Mp).bind fun TP=>(some (Go.bits .xor .u16 IntKind.u16.max TP))))) else (some 0)))=some r:=h;clear h;replace H:=dc H;obtain ⟨⟨PE,Mq⟩,qo,H⟩:=H
 (try dsimp -simprocs only at H)
 have A4:=aa.mk qo;clear qo
 by_cases c5:Mq=0
 ·rw [aq c5] at H
  have mJ:(Mq==0)=true:=fF c5;have qn:(Mq !=0)=false:=kL c5;clear c5;replace H:=dc H;obtain ⟨Mo,wD,H⟩:=H
  (try dsimp -simprocs only at H)
  have A6:=aa.mk wD;clear wD;replace H:=dc H;obtain ⟨Mp,BB,H⟩:=H
  (try dsimp -simprocs only at H)
  have A7:=aa.mk BB;clear BB;replace H:=dc H;obtain ⟨TP,Ke,H⟩:=H
  (try dsimp -simprocs only at H)
  have A8:=aa.mk Ke;clear Ke;obtain rfl:=cN H
  go_enter Try.func74,Try.ntmps74
  go_wp2_with (first|((with_reducible refine aA (N:=5) rfl ?_);refine aC ?hg (N:=5) ?hd (cs:= #[.int .u16 ew,.int .u16 ez,.int .u32 ee,.int .u32 jg,.int .u8 jh,.int .u16 ji,.int .u16 kB,.int .u16 jj,.slice nl iz.length nn,.slice nr iA.length nu]) (t:=137) ?hr ?_;(case hd=>rfl);(case hg=>rfl);(case hr=>first|(go_simp;done)|(go_simp;rfl));intro l8 hg w9 bJ hb;have aH:=aa.mk (au (bz HB) hb);have aK:=aa.mk (bJ);have bt:=aa.mk ((by rw [hg];exact (af (bz HB)):w.heap.size<=l8));have cC:=aa.mk ((by rw [hg];exact (af (bz HB)):w.heap.size<=l8));clear HB;have HB:=aH;have hO:=aK;have Air:=bt;have Ais:=cC;clear aH aK bt cC;clear hb bJ hg;have tB:w9.cell? ⟨l8,0,none⟩=some (.int .u16 ew):=cz hO.out 0 rfl;have tC:w9.cell? ⟨l8,1,none⟩=some (.int .u16 ez):=cz hO.out 1 rfl;have tD:w9.cell? ⟨l8,2,none⟩=some (.int .u32 ee):=cz hO.out 2 rfl;have tE:w9.cell? ⟨l8,3,none⟩=some (.int .u32 jg):=cz hO.out 3 rfl;have z4:w9.cell? ⟨l8,4,none⟩=some (.int .u8 jh):=cz hO.out 4 rfl;have CB:w9.cell? ⟨l8,5,none⟩=some (.int .u16 ji):=cz hO.out 5 rfl;have CC:w9.cell? ⟨l8,6,none⟩=some (.int .u16 kB):=cz hO.out 6 rfl;have CD:w9.cell? ⟨l8,7,none⟩=some (.int .u16 jj):=cz hO.out 7 rfl;have CE:w9.cell? ⟨l8,8,none⟩=some (.slice nl iz.length nn):=cz hO.out 8 rfl;have CF:w9.cell? ⟨l8,9,none⟩=some (.slice nr iA.length nu):=cz hO.out 9 rfl;have tF:=ae hO.out 0;have tG:=ae hO.out 1;have tH:=ae hO.out 2;have tI:=ae hO.out 3;have z5:=ae hO.out 4;have CG:=ae hO.out 5;have CI:=ae hO.out 6;have CJ:=ae hO.out 7;have CK:=ae hO.out 8;have CL:=ae hO.out 9)|((with_reducible refine az (f:=75) rfl ?_);refine gL 12 Try.func75 #[.agg #[.int .u16 ew,.int .u16 ez,.int .u32 ee,.int .u32 jg,.int .u8 jh,.int .u16 ji,.int .u16 0,.int .u16 jj,.slice nl iz.length nn,.slice nr iA.length nu]] ?_;(with_reducible refine (aD.calls k ew ez ee jg jh ji 0 jj _ _ iz _ _ iA PE Mq _ ?aE ?aG ?uD ?uE A4.out).mono ?_);(case aE=>exact Kd.aW yO.out (bz HB));(case aG=>exact yP.out);(case uD=>exact Kd.aW yQ.out (bz HB));(case uE=>exact yR.out);rintro e sn ⟨Ap9,rfl,gC,hb⟩;refine ⟨_,rfl, ?_⟩;have aH:=aa.mk (Kd.bP gC (af (bz HB)));have aK:=aa.mk (bq (g:=l8) (o:= .cells #[.int .u16 ew,.int .u16 ez,.int .u32 ee,.int .u32 jg,.int .u8 jh,.int .u16 ji,.int .u16 0,.int .u16 jj,.slice nl iz.length nn,.slice nr iA.length nu] 137 (0,0)) (by (with_reducible repeat (first|refine aQ ?_ _|refine aJ ?_|refine aM ?_ _));refine bK (cs:= #[.int .u16 ew,.int .u16 ez,.int .u32 ee,.int .u32 jg,.int .u8 jh,.int .u16 ji,.int .u16 kB,.int .u16 jj,.slice nl iz.length nn,.slice nr iA.length nu]) ?_ 6 _ rfl;(with_reducible repeat (first|refine aQ ?_ _|refine aJ ?_|refine aM ?_ _));exact hO.out) hb);have bt:=aa.mk (au (bz HB) hb);clear hO;clear HB;have Ee:=aH;have hO:=aK;have HB:=bt;clear aH aK bt;(try clear hb);(try clear hb2);(try clear hk);(try clear hi);(try clear gC);obtain ⟨Ait,Aiu,Ac6⟩:=Kd.dn Ee.out;subst Ac6)|((with_reducible refine az (f:=82) rfl ?_);refine gL 21 Try.func82 #[.int .u32 a0,.int .u32 a1,.int .u8 6,.int .i64 (PE.length:Int)] ?_;(with_reducible refine (eC.calls k a0 a1 6 (PE.length:Int) Mo _ A6.out).mono ?_);rintro e w' ⟨rfl,⟨nd,rfl⟩⟩;refine ⟨_,rfl, ?_⟩)|((with_reducible refine az (f:=80) rfl ?_);refine gL 23 Try.func80 #[.int .u32 Mo,.slice Ait PE.length Aiu] ?_;(with_reducible refine (bW.calls k Mo _ _ PE Mp _ ?aE ?aG A7.out).mono ?_);(case aE=>repeat (first|exact (Kd.ay Ee.out).2.2|(with_reducible refine Kd.fH ?_ _)|(with_reducible refine Kd.fz ?_ _)|(with_reducible refine Kd.gQ ?_)));(case aG=>exact (Kd.ay Ee.out).2.1);rintro e yD ⟨rfl,hb⟩;refine ⟨_,rfl, ?_⟩;have aH:=aa.mk (Kd.fX (Kd.rz Ee) hb);have aK:=aa.mk (bq (kz hO) hb);have bt:=aa.mk (au (bz HB) hb);clear Ee;clear hO;clear HB;have Ee:=aH;have hO:=aK;have HB:=bt;clear aH aK bt;(try clear hb);(try clear hb2);(try clear hk);(try clear hi))|((with_reducible refine az (f:=79) rfl ?_);refine gL 24 Try.func79 #[.int .u32 Mp] ?_;(with_reducible refine (bE.calls k Mp TP _ A8.out).mono ?_);rintro e w' ⟨rfl,⟨nd,rfl⟩⟩;refine ⟨_,rfl, ?_⟩))
  go_ret
  exact ⟨by first|rfl|(simp [aj,ak]<;>rfl)|(simp [*,aj,ak]<;>rfl),bz HB⟩
 rw [av c5] at H
 have mJ:(Mq==0)=false:=fq c5;have qn:(Mq !=0)=true:=lf c5;obtain rfl:=cN H
 go_enter Try.func74,Try.ntmps74
 go_wp2_with (first|((with_reducible refine aA (N:=5) rfl ?_);refine aC ?hg (N:=5) ?hd (cs:= #[.int .u16 ew,.int .u16 ez,.int .u32 ee,.int .u32 jg,.int .u8 jh,.int .u16 ji,.int .u16 kB,.int .u16 jj,.slice nl iz.length nn,.slice nr iA.length nu]) (t:=137) ?hr ?_;(case hd=>rfl);(case hg=>rfl);(case hr=>first|(go_simp;done)|(go_simp;rfl));intro l8 hg qY bJ hb;have aH:=aa.mk (au (bz HB) hb);have aK:=aa.mk (bJ);have bt:=aa.mk ((by rw [hg];exact (af (bz HB)):w.heap.size<=l8));have cC:=aa.mk ((by rw [hg];exact (af (bz HB)):w.heap.size<=l8));clear HB;have HB:=aH;have hO:=aK;have Air:=bt;have Ais:=cC;clear aH aK bt cC;clear hb bJ hg;have WQ:qY.cell? ⟨l8,0,none⟩=some (.int .u16 ew):=cz hO.out 0 rfl;have WR:qY.cell? ⟨l8,1,none⟩=some (.int .u16 ez):=cz hO.out 1 rfl;have WS:qY.cell? ⟨l8,2,none⟩=some (.int .u32 ee):=cz hO.out 2 rfl;have WT:qY.cell? ⟨l8,3,none⟩=some (.int .u32 jg):=cz hO.out 3 rfl;have WU:qY.cell? ⟨l8,4,none⟩=some (.int .u8 jh):=cz hO.out 4 rfl;have WV:qY.cell? ⟨l8,5,none⟩=some (.int .u16 ji):=cz hO.out 5 rfl;have WW:qY.cell? ⟨l8,6,none⟩=some (.int .u16 kB):=cz hO.out 6 rfl;have WX:qY.cell? ⟨l8,7,none⟩=some (.int .u16 jj):=cz hO.out 7 rfl;have WY:qY.cell? ⟨l8,8,none⟩=some (.slice nl iz.length nn):=cz hO.out 8 rfl;have WZ:qY.cell? ⟨l8,9,none⟩=some (.slice nr iA.length nu):=cz hO.out 9 rfl;have W3:=ae hO.out 0;have W4:=ae hO.out 1;have W5:=ae hO.out 2;have W6:=ae hO.out 3;have W7:=ae hO.out 4;have W8:=ae hO.out 5;have W9:=ae hO.out 6;have Xa:=ae hO.out 7;have Xb:=ae hO.out 8;have Xc:=ae hO.out 9)|((with_reducible refine az (f:=75) rfl ?_);refine gL 12 Try.func75 #[.agg #[.int .u16 ew,.int .u16 ez,.int .u32 ee,.int .u32 jg,.int .u8 jh,.int .u16 ji,.int .u16 0,.int .u16 jj,.slice nl iz.length nn,.slice nr iA.length nu]] ?_;(with_reducible refine (aD.calls k ew ez ee jg jh ji 0 jj _ _ iz _ _ iA PE Mq _ ?aE ?aG ?uD ?uE A4.out).mono ?_);(case aE=>exact Kd.aW yO.out (bz HB));(case aG=>exact yP.out);(case uD=>exact Kd.aW yQ.out (bz HB));(case uE=>exact yR.out);rintro e qJ ⟨Ap9,rfl,gC,hb⟩;refine ⟨_,rfl, ?_⟩;have aH:=aa.mk (Kd.bP gC (af (bz HB)));have aK:=aa.mk (bq (g:=l8) (o:= .cells #[.int .u16 ew,.int .u16 ez,.int .u32 ee,.int .u32 jg,.int .u8 jh,.int .u16 ji,.int .u16 0,.int .u16 jj,.slice nl iz.length nn,.slice nr iA.length nu] 137 (0,0)) (by (with_reducible repeat (first|refine aQ ?_ _|refine aJ ?_|refine aM ?_ _));refine bK (cs:= #[.int .u16 ew,.int .u16 ez,.int .u32 ee,.int .u32 jg,.int .u8 jh,.int .u16 ji,.int .u16 kB,.int .u16 jj,.slice nl iz.length nn,.slice nr iA.length nu]) ?_ 6 _ rfl;(with_reducible repeat (first|refine aQ ?_ _|refine aJ ?_|refine aM ?_ _));exact hO.out) hb);have bt:=aa.mk (au (bz HB) hb);clear hO;clear HB;have Ee:=aH;have hO:=aK;have HB:=bt;clear aH aK bt;(try clear hb);(try clear hb2);(try clear hk);(try clear hi);(try clear gC)))
 go_ret
 exact ⟨by first|rfl|(simp [aj,ak]<;>rfl)|(simp [*,aj,ak]<;>rfl),bz HB⟩
def ql:List Int:=[97,98,99,100,101,102,103,104,105,106,107,108,109,110,111,112]
def l9.f (k:Nat) (pr src dst fr tp fl n:Int):Option (List Int):=
 if pr=17 then
  if Go.bits .and .u8 fl 64=0 then (kZ.f k src dst fr tp 0 (ql.take (n.tmod 16).toNat)).bind fun s=>(cl.f fr tp s (ql.take (n.tmod 16).toNat)).bind fun b=>some b.1
  else (cl.f fr tp 0 (ql.take (n.tmod 16).toNat)).bind fun b=>some b.1
 else if pr=6 then
  if Go.bits .and .u8 n 32=0 then (iR.f k src dst fr tp (n % 4294967296) 0 (Go.bits .and .u8 fl 23) 9 0 0 [] (ql.take (n.tmod 16).toNat)).bind fun s=>(aD.f k fr tp (n % 4294967296) 0 (Go.bits .and .u8 fl 23) 9 s 0 [] (ql.take (n.tmod 16).toNat)).bind fun b=>some b.1
  else (iR.f k src dst fr tp (n % 4294967296) 0 (Go.bits .and .u8 fl 23) 9 0 0 [1,1,1,0] (ql.take (n.tmod 16).toNat)).bind fun s=>(aD.f k fr tp (n % 4294967296) 0 (Go.bits .and .u8 fl 23) 9 s 0 [1,1,1,0] (ql.take (n.tmod 16).toNat)).bind fun b=>some b.1
 else if Go.bits .and .u8 fl 1=0 then (fE.f k 8 0 0 (Go.bits .or .u32 (fr % 4294967296*65536 % 4294967296) (n % 4294967296)) (ql.take (n.tmod 16).toNat)).bind fun s=>(bG.f 8 0 s (Go.bits .or .u32 (fr % 4294967296*65536 % 4294967296) (n % 4294967296)) (ql.take (n.tmod 16).toNat)).bind fun b=>some b.1
  else (fE.f k 0 0 0 (Go.bits .or .u32 (fr % 4294967296*65536 % 4294967296) (n % 4294967296)) (ql.take (n.tmod 16).toNat)).bind fun s=>(bG.f 0 0 s (Go.bits .or .u32 (fr % 4294967296*65536 % 4294967296) (n % 4294967296)) (ql.take (n.tmod 16).toNat)).bind fun b=>some b.1
theorem l9.calls (k:Nat) (pr src dst fr tp fl n:Int) (r:List Int) (w:World) (hn:0<=n /\ n<=255) (h:l9.f k pr src dst fr tp fl n=some r):
  Calls Try.prog 53 #[.int .u8 pr,.int .u32 src,.int .u32 dst,.int .u16 fr,.int .u16 tp,.int .u8 fl,.int .u8 n] w fun e w'=>∃ oW:Value,e= .returned oW /\ Kd.R (Kd.int .u8) 5 w' w.heap.size (fun _=>True) oW r /\ Below w.heap.size w w':=by
 have zO:=Try.underlying83;have uC:=Try.underlying137;have oA:=Try.underlying101;have HB:=gI w;have yj:aa ((Try.prog.info? 83).map (·.size)=some 4):=⟨by kernel_rfl⟩
 have mz:aa ((Try.prog.info? 137).map (·.size)=some 10):=⟨by kernel_rfl⟩
 have jD:aa ((Try.prog.info? 101).map (·.size)=some 5):=⟨by kernel_rfl⟩
 obtain ⟨m,hm⟩:∃ m:Nat,n.tmod 16=(m:Int):=⟨(n.tmod 16).toNat,(Int.toNat_of_nonneg (Int.tmod_nonneg _ hn.1)).symm⟩
 have Xd:m<=ql.length:=by
  have h1:n.tmod 16<16:=Int.tmod_lt_of_pos _ (by decide);have h2:ql.length=16:=rfl
  omega
 obtain ⟨i0,Iq,_,hsz,_⟩:=info_parts fY;have H:l9.f k pr src dst fr tp fl n=some r:=h;clear h;unfold l9.f at H
 rw [hm,Int.toNat_natCast] at H
 obtain ⟨l,hl⟩:∃ l,l=ql.take m:=⟨_,rfl⟩
 have hll:l.length=m:=by rw [hl,List.length_take];omega
 have hcut:=Ra (P:=Try.prog) 23 5 .u8 Try.underlying23 Iq (some ⟨w.heap.size,0,none⟩) 16 16 (n.tmod 16) l.length (by rw [hll];exact hm) (by rw [hll];exact Xd) (Nat.le_refl _);rw [<- hl] at H
 have kc:=Lib.run_convert_bytes_const (P:=Try.prog) w 23 5 #[.int .u8 97,.int .u8 98,.int .u8 99,.int .u8 100,.int .u8 101,.int .u8 102,.int .u8 103,.int .u8 104,.int .u8 105,.int .u8 106,.int .u8 107,.int .u8 108,.int .u8 109,.int .u8 110,.int .u8 111,.int .u8 112] 16 16 Try.underlying23 Try.underlying5;have Qs:=aa.mk hl;have Ef:=aa.mk Xd;have TQ:aa (l.length<=16):=⟨by rw [hll];exact Xd⟩
 have HF:=aa.mk H;clear hl hll hm Xd Iq hsz H hn
 go_enter Try.func53,Try.ntmps53
 go_upto_region 2 with (fail)
 clear hcut kc;obtain ⟨gd,hgd⟩:∃ x_,x_=w.heap.size:=⟨_,rfl⟩
 have cL:aa ((w.alloc (.cells #[.int .u8 97,.int .u8 98,.int .u8 99,.int .u8 100,.int .u8 101,.int .u8 102,.int .u8 103,.int .u8 104,.int .u8 105,.int .u8 106,.int .u8 107,.int .u8 108,.int .u8 109,.int .u8 110,.int .u8 111,.int .u8 112] 5 (16,17))).heap[gd]?=some (.cells #[.int .u8 97,.int .u8 98,.int .u8 99,.int .u8 100,.int .u8 101,.int .u8 102,.int .u8 103,.int .u8 104,.int .u8 105,.int .u8 106,.int .u8 107,.int .u8 108,.int .u8 109,.int .u8 110,.int .u8 111,.int .u8 112] 5 (16,17))):=⟨by rw [hgd];exact iT _ _⟩
 rw [<- hgd];clear hgd;have ai:=dV (Below.refl w.heap.size w) (.cells #[.int .u8 97,.int .u8 98,.int .u8 99,.int .u8 100,.int .u8 101,.int .u8 102,.int .u8 103,.int .u8 104,.int .u8 105,.int .u8 106,.int .u8 107,.int .u8 108,.int .u8 109,.int .u8 110,.int .u8 111,.int .u8 112] 5 (16,17));replace HB:=mB HB ai;clear ai;generalize w.alloc (.cells #[.int .u8 97,.int .u8 98,.int .u8 99,.int .u8 100,.int .u8 101,.int .u8 102,.int .u8 103,.int .u8 104,.int .u8 105,.int .u8 106,.int .u8 107,.int .u8 108,.int .u8 109,.int .u8 110,.int .u8 111,.int .u8 112] 5 (16,17))=w1 at cL HB|-
 have H:=HF.out;clear HF
 by_cases rH:pr=17
 ·have Aiv:(pr==17)=true:=fF rH
  have Aqa:(pr !=17)=false:=by rw [bne,Aiv];rfl
  rw [aq rH] at H
  clear rH
  (try dsimp only)
  go_upto_region 5 with ((first|(refine lX rfl rfl (uh rfl rfl rfl yj.out rfl (by simp [Value.oneCell'])) ?_)))
  obtain ⟨gu,Gr⟩:∃ x_,x_=w1.heap.size:=⟨_,rfl⟩
  have cM:aa ((w1.alloc (.cells #[.int .u16 fr,.int .u16 tp,.int .u16 0,.slice (some ⟨gd,0,none⟩) l.length 16] 83)).heap[gu]?=some (.cells #[.int .u16 fr,.int .u16 tp,.int .u16 0,.slice (some ⟨gd,0,none⟩) l.length 16] 83 (0,0))):=⟨by rw [Gr];exact iT _ _⟩
  have sW:=aa.mk (show w.heap.size<=gu by rw [Gr];exact af HB.out);rw [<- Gr];clear Gr;have ai:=dV (Below.refl w1.heap.size w1) (.cells #[.int .u16 fr,.int .u16 tp,.int .u16 0,.slice (some ⟨gd,0,none⟩) l.length 16] 83);replace HB:=mB HB ai;replace cL:=mX cL ai;clear ai;generalize (w1.alloc (.cells #[.int .u16 fr,.int .u16 tp,.int .u16 0,.slice (some ⟨gd,0,none⟩) l.length 16] 83))=w2 at cM HB cL|-
  by_cases cf:Go.bits .and .u8 fl 64=0
  ·have cf1:(Go.bits .and .u8 fl 64==0)=true:=fF cf
   have cf2:(Go.bits .and .u8 fl 64 !=0)=false:=by rw [bne,cf1];rfl
   rw [aq cf] at H
   clear cf
   (try dsimp only)
   go_wp2_with (refine Kd.bU rfl (bM rfl rfl cM.out Try.underlying83 rfl yj.out) ?_)
   obtain ⟨s,hs0,H⟩:=bR H;have yU:=aa.mk (show Kd.C (Kd.int .u8) w2 (some ⟨gd,0,none⟩) l.length l by rw [Qs.out];exact l5 cL.out rfl Ef.out (by decide));refine (kZ.calls k src dst fr tp 0 (some ⟨gd,0,none⟩) 16 l s _ yU.out TQ.out hs0).mono ?_;rintro e w3 ⟨rfl,hb⟩;clear hs0 yU;have ai:=hb;replace HB:=mB HB ai;replace cL:=mX cL ai;replace cM:=mX cM ai;clear ai;clear hb
   (try dsimp only)
   go_upto_region 7 with (((refine jO rfl rfl (i:=2) (v:= .int .u16 s) (cs':= #[.int .u16 fr,.int .u16 tp,.int .u16 s,.slice (some ⟨gd,0,none⟩) l.length 16]) cM.out rfl ?eY ?_);(case eY=>(have m_:=(aN cM.out 2).trans (rfl:_=some (.int .u16 0:Value)));(have pU:=ae cM.out 2);first|(go_simp;done)|(go_simp;rfl));intro w4 hs_ ag;have gY:=aa.mk (j7.below ag HB.out sW.out);have pq:=aa.mk (j7.blk ag cL.out cM.out (by decide));clear HB cL cM ag;have cM:=aa.mk hs_;clear hs_;have HB:=gY;have cL:=pq;clear gY pq))
   go_wp2_with (refine Kd.bU rfl (bM rfl rfl cM.out Try.underlying83 rfl yj.out) ?_)
   obtain ⟨⟨b,be⟩,hb0,H⟩:=bR H;obtain rfl:=cN H;have yU:=aa.mk (show Kd.C (Kd.int .u8) w4 (some ⟨gd,0,none⟩) l.length l by rw [Qs.out];exact l5 cL.out rfl Ef.out (by decide));refine (cl.calls fr tp s (some ⟨gd,0,none⟩) 16 l b be _ yU.out TQ.out hb0).mono ?_;rintro e w5 ⟨v_,rfl,ho,hb⟩;have Mb:=aa.mk (Kd.bP ho (af HB.out));clear ho hb0 yU;have ai:=hb;replace HB:=mB HB ai;clear ai;clear hb
   (try dsimp only)
   go_wp2
   (try simp only [Exit.inBlock,Exit.then])
   go_ret
   exact ⟨_,rfl,Mb.out,HB.out⟩
  have cf1:(Go.bits .and .u8 fl 64==0)=false:=fq cf
  have cf2:(Go.bits .and .u8 fl 64 !=0)=true:=bne_iff_ne.2 cf;rw [av cf] at H
  clear cf
  (try dsimp only)
  go_wp2_with (refine Kd.bU rfl (bM rfl rfl cM.out Try.underlying83 rfl yj.out) ?_)
  obtain ⟨⟨b,be⟩,hb0,H⟩:=bR H;obtain rfl:=cN H;have yU:=aa.mk (show Kd.C (Kd.int .u8) w2 (some ⟨gd,0,none⟩) l.length l by rw [Qs.out];exact l5 cL.out rfl Ef.out (by decide));refine (cl.calls fr tp 0 (some ⟨gd,0,none⟩) 16 l b be _ yU.out TQ.out hb0).mono ?_;rintro e w5 ⟨v_,rfl,ho,hb⟩;have Mb:=aa.mk (Kd.bP ho (af HB.out));clear ho hb0 yU;have ai:=hb;replace HB:=mB HB ai;clear ai;clear hb
  (try dsimp only)
  go_wp2
  (try simp only [Exit.inBlock,Exit.then])
  go_ret
  exact ⟨_,rfl,Mb.out,HB.out⟩
 have Aiv:(pr==17)=false:=fq rH
 have Aqa:(pr !=17)=true:=bne_iff_ne.2 rH;rw [av rH] at H
 clear rH
 by_cases c6:pr=6
 ·have c61:(pr==6)=true:=fF c6
  have c62:(pr !=6)=false:=by rw [bne,c61];rfl
  rw [aq c6] at H
  clear c6
  (try dsimp only)
  go_upto_region 11 with ((first|(refine lX rfl rfl (uh rfl rfl rfl mz.out rfl (by simp [Value.oneCell'])) ?_)))
  obtain ⟨gt,hgt⟩:∃ x_,x_=w1.heap.size:=⟨_,rfl⟩
  have zi:aa ((w1.alloc (.cells #[.int .u16 fr,.int .u16 tp,.int .u32 (n % 4294967296),.int .u32 0,.int .u8 (Go.bits .and .u8 fl 23),.int .u16 9,.int .u16 0,.int .u16 0,.slice none 0 0,.slice (some ⟨gd,0,none⟩) l.length 16] 137)).heap[gt]?=some (.cells #[.int .u16 fr,.int .u16 tp,.int .u32 (n % 4294967296),.int .u32 0,.int .u8 (Go.bits .and .u8 fl 23),.int .u16 9,.int .u16 0,.int .u16 0,.slice none 0 0,.slice (some ⟨gd,0,none⟩) l.length 16] 137 (0,0))):=⟨by rw [hgt];exact iT _ _⟩
  have Ac7:=aa.mk (show w.heap.size<=gt by rw [hgt];exact af HB.out);rw [<- hgt];clear hgt;have ai:=dV (Below.refl w1.heap.size w1) (.cells #[.int .u16 fr,.int .u16 tp,.int .u32 (n % 4294967296),.int .u32 0,.int .u8 (Go.bits .and .u8 fl 23),.int .u16 9,.int .u16 0,.int .u16 0,.slice none 0 0,.slice (some ⟨gd,0,none⟩) l.length 16] 137);replace HB:=mB HB ai;replace cL:=mX cL ai;clear ai;generalize (w1.alloc (.cells #[.int .u16 fr,.int .u16 tp,.int .u32 (n % 4294967296),.int .u32 0,.int .u8 (Go.bits .and .u8 fl 23),.int .u16 9,.int .u16 0,.int .u16 0,.slice none 0 0,.slice (some ⟨gd,0,none⟩) l.length 16] 137))=w2 at zi HB cL|-
  by_cases co:Go.bits .and .u8 n 32=0
  ·have co1:(Go.bits .and .u8 n 32==0)=true:=fF co
   have co2:(Go.bits .and .u8 n 32 !=0)=false:=by rw [bne,co1];rfl
   rw [aq co] at H
   clear co
   (try dsimp only)
   go_wp2_with (refine Kd.bU rfl (bM rfl rfl zi.out Try.underlying137 rfl mz.out) ?_)
   obtain ⟨s,hs0,H⟩:=bR H;have yU:=aa.mk (show Kd.C (Kd.int .u8) w2 (some ⟨gd,0,none⟩) l.length l by rw [Qs.out];exact l5 cL.out rfl Ef.out (by decide));have Xe:=aa.mk (Kd.Dc (Kd.int .u8) w2);refine (iR.calls k src dst fr tp (n % 4294967296) 0 (Go.bits .and .u8 fl 23) 9 0 0 none 0 [] (some ⟨gd,0,none⟩) 16 l s _ Xe.out (by decide) yU.out TQ.out hs0).mono ?_;rintro e w7 ⟨rfl,hb⟩;clear hs0 yU Xe;have ai:=hb;replace HB:=mB HB ai;replace cL:=mX cL ai;replace zi:=mX zi ai;clear ai;clear hb
   (try dsimp only)
   go_upto_region 14 with (((refine jO rfl rfl (i:=6) (v:= .int .u16 s) (cs':= #[.int .u16 fr,.int .u16 tp,.int .u32 (n % 4294967296),.int .u32 0,.int .u8 (Go.bits .and .u8 fl 23),.int .u16 9,.int .u16 s,.int .u16 0,.slice none 0 0,.slice (some ⟨gd,0,none⟩) l.length 16]) zi.out rfl ?eY ?_);(case eY=>(have m_:=(aN zi.out 6).trans (rfl:_=some (.int .u16 0:Value)));(have pU:=ae zi.out 6);first|(go_simp;done)|(go_simp;rfl));intro w8 hs_ ag;have gY:=aa.mk (j7.below ag HB.out Ac7.out);have pq:=aa.mk (j7.blk ag cL.out zi.out (by decide));clear HB cL zi ag;have zi:=aa.mk hs_;clear hs_;have HB:=gY;have cL:=pq;clear gY pq))
   go_wp2_with (refine Kd.bU rfl (bM rfl rfl zi.out Try.underlying137 rfl mz.out) ?_)
   have Xe:=aa.mk (Kd.Dc (Kd.int .u8) w8);obtain ⟨⟨b,be⟩,hb0,H⟩:=bR H;obtain rfl:=cN H;have yU:=aa.mk (show Kd.C (Kd.int .u8) w8 (some ⟨gd,0,none⟩) l.length l by rw [Qs.out];exact l5 cL.out rfl Ef.out (by decide));refine (aD.calls k fr tp (n % 4294967296) 0 (Go.bits .and .u8 fl 23) 9 s 0 none 0 [] (some ⟨gd,0,none⟩) 16 l b be _ Xe.out (by decide) yU.out TQ.out hb0).mono ?_;rintro e w9 ⟨v_,rfl,ho,hb⟩;have Mb:=aa.mk (Kd.bP ho (af HB.out));clear ho hb0 yU;have ai:=hb;replace HB:=mB HB ai;clear ai;clear hb
   (try dsimp only)
   go_wp2
   (try simp only [Exit.inBlock,Exit.then])
   go_ret
   exact ⟨_,rfl,Mb.out,HB.out⟩
  have co1:(Go.bits .and .u8 n 32==0)=false:=fq co
  have co2:(Go.bits .and .u8 n 32 !=0)=true:=bne_iff_ne.2 co;rw [av co] at H
  clear co
  (try dsimp only)
  go_upto_region 13 with (first|((with_reducible refine aA (N:=64) rfl ?_);refine Gm ?fT (cs:= #[.int .u8 1,.int .u8 1,.int .u8 1,.int .u8 0]) (t:=5) (n:=4) ?eY ?_;(case fT=>rfl);(case eY=>first|(go_simp;done)|(go_simp;rfl));intro go w5 Aiw hgo Ak;have Ve:=aa.mk Aiw;clear Aiw hgo;have ai:=Ak;replace HB:=mB HB ai;replace cL:=mX cL ai;replace zi:=mX zi ai;clear ai;clear Ak)|((refine jO rfl rfl (i:=8) (v:= .slice (some ⟨go,0,none⟩) 4 4) (cs':= #[.int .u16 fr,.int .u16 tp,.int .u32 (n % 4294967296),.int .u32 0,.int .u8 (Go.bits .and .u8 fl 23),.int .u16 9,.int .u16 0,.int .u16 0,.slice (some ⟨go,0,none⟩) 4 4,.slice (some ⟨gd,0,none⟩) l.length 16]) zi.out rfl ?eY ?_);(case eY=>(have m_:=(aN zi.out 8).trans (rfl:_=some (.slice none 0 0:Value)));(have pU:=ae zi.out 8);first|(go_simp;done)|(go_simp;rfl));intro w6 hs_ ag;have gY:=aa.mk (j7.below ag HB.out Ac7.out);have pq:=aa.mk (j7.blk ag cL.out zi.out (by decide));have Ko:=aa.mk (j7.blk ag Ve.out zi.out (by decide));clear HB cL Ve zi ag;have zi:=aa.mk hs_;clear hs_;have HB:=gY;have cL:=pq;have Ve:=Ko;clear gY pq Ko))
  go_wp2_with (refine Kd.bU rfl (bM rfl rfl zi.out Try.underlying137 rfl mz.out) ?_)
  obtain ⟨s,hs0,H⟩:=bR H;have yU:=aa.mk (show Kd.C (Kd.int .u8) w6 (some ⟨gd,0,none⟩) l.length l by rw [Qs.out];exact l5 cL.out rfl Ef.out (by decide));have Xe:=aa.mk (l5 (xs:=[1,1,1,0]) (m:=4) (w:=w6) Ve.out rfl (by decide) (by decide));refine (iR.calls k src dst fr tp (n % 4294967296) 0 (Go.bits .and .u8 fl 23) 9 0 0 (some ⟨go,0,none⟩) 4 [1,1,1,0] (some ⟨gd,0,none⟩) 16 l s _ Xe.out (by decide) yU.out TQ.out hs0).mono ?_;rintro e w7 ⟨rfl,hb⟩;clear hs0 yU Xe;have ai:=hb;replace HB:=mB HB ai;replace cL:=mX cL ai;replace zi:=mX zi ai;replace Ve:=mX Ve ai;clear ai;clear hb
  (try dsimp only)
  go_upto_region 14 with (((refine jO rfl rfl (i:=6) (v:= .int .u16 s) (cs':= #[.int .u16 fr,.int .u16 tp,.int .u32 (n % 4294967296),.int .u32 0,.int .u8 (Go.bits .and .u8 fl 23),.int .u16 9,.int .u16 s,.int .u16 0,.slice (some ⟨go,0,none⟩) 4 4,.slice (some ⟨gd,0,none⟩) l.length 16]) zi.out rfl ?eY ?_);(case eY=>(have m_:=(aN zi.out 6).trans (rfl:_=some (.int .u16 0:Value)));(have pU:=ae zi.out 6);first|(go_simp;done)|(go_simp;rfl));intro w8 hs_ ag;have gY:=aa.mk (j7.below ag HB.out Ac7.out);have pq:=aa.mk (j7.blk ag cL.out zi.out (by decide));have Ko:=aa.mk (j7.blk ag Ve.out zi.out (by decide));clear HB cL Ve zi ag;have zi:=aa.mk hs_;clear hs_;have HB:=gY;have cL:=pq;have Ve:=Ko;clear gY pq Ko))
  go_wp2_with (refine Kd.bU rfl (bM rfl rfl zi.out Try.underlying137 rfl mz.out) ?_)
  have Xe:=aa.mk (l5 (xs:=[1,1,1,0]) (m:=4) (w:=w8) Ve.out rfl (by decide) (by decide));obtain ⟨⟨b,be⟩,hb0,H⟩:=bR H;obtain rfl:=cN H;have yU:=aa.mk (show Kd.C (Kd.int .u8) w8 (some ⟨gd,0,none⟩) l.length l by rw [Qs.out];exact l5 cL.out rfl Ef.out (by decide));refine (aD.calls k fr tp (n % 4294967296) 0 (Go.bits .and .u8 fl 23) 9 s 0 (some ⟨go,0,none⟩) 4 [1,1,1,0] (some ⟨gd,0,none⟩) 16 l b be _ Xe.out (by decide) yU.out TQ.out hb0).mono ?_;rintro e w9 ⟨v_,rfl,ho,hb⟩;have Mb:=aa.mk (Kd.bP ho (af HB.out));clear ho hb0 yU;have ai:=hb;replace HB:=mB HB ai;clear ai;clear hb
  (try dsimp only)
  go_wp2
  (try simp only [Exit.inBlock,Exit.then])
  go_ret
  exact ⟨_,rfl,Mb.out,HB.out⟩
 have c61:(pr==6)=false:=fq c6
 have c62:(pr !=6)=true:=bne_iff_ne.2 c6;rw [av c6] at H
 clear c6
 (try dsimp only)
 go_upto_region 17 with ((first|(refine lX rfl rfl (uh rfl rfl rfl jD.out rfl (by simp [Value.oneCell'])) ?_)))
 obtain ⟨gm,Xf⟩:∃ x_,x_=w1.heap.size:=⟨_,rfl⟩
 have kC:aa ((w1.alloc (.cells #[.int .u8 8,.int .u8 0,.int .u16 0,.int .u32 (Go.bits .or .u32 (fr % 4294967296*65536 % 4294967296) (n % 4294967296)),.slice (some ⟨gd,0,none⟩) l.length 16] 101)).heap[gm]?=some (.cells #[.int .u8 8,.int .u8 0,.int .u16 0,.int .u32 (Go.bits .or .u32 (fr % 4294967296*65536 % 4294967296) (n % 4294967296)),.slice (some ⟨gd,0,none⟩) l.length 16] 101 (0,0))):=⟨by rw [Xf];exact iT _ _⟩
 have JR:=aa.mk (show w.heap.size<=gm by rw [Xf];exact af HB.out);rw [<- Xf];clear Xf;have ai:=dV (Below.refl w1.heap.size w1) (.cells #[.int .u8 8,.int .u8 0,.int .u16 0,.int .u32 (Go.bits .or .u32 (fr % 4294967296*65536 % 4294967296) (n % 4294967296)),.slice (some ⟨gd,0,none⟩) l.length 16] 101);replace HB:=mB HB ai;replace cL:=mX cL ai;clear ai;generalize (w1.alloc (.cells #[.int .u8 8,.int .u8 0,.int .u16 0,.int .u32 (Go.bits .or .u32 (fr % 4294967296*65536 % 4294967296) (n % 4294967296)),.slice (some ⟨gd,0,none⟩) l.length 16] 101))=w2 at kC HB cL|-
 by_cases ci:Go.bits .and .u8 fl 1=0
 ·have ci1:(Go.bits .and .u8 fl 1==0)=true:=fF ci
  have ci2:(Go.bits .and .u8 fl 1 !=0)=false:=by rw [bne,ci1];rfl
  rw [aq ci] at H
  clear ci
  (try dsimp only)
  go_wp2_with (refine Kd.bU rfl (bM rfl rfl kC.out Try.underlying101 rfl jD.out) ?_)
  obtain ⟨s,hs0,H⟩:=bR H;have yU:=aa.mk (show Kd.C (Kd.int .u8) w2 (some ⟨gd,0,none⟩) l.length l by rw [Qs.out];exact l5 cL.out rfl Ef.out (by decide));refine (fE.calls k 8 0 0 (Go.bits .or .u32 (fr % 4294967296*65536 % 4294967296) (n % 4294967296)) (some ⟨gd,0,none⟩) 16 l s _ yU.out TQ.out hs0).mono ?_;rintro e w7 ⟨rfl,hb⟩;clear hs0 yU;have ai:=hb;replace HB:=mB HB ai;replace cL:=mX cL ai;replace kC:=mX kC ai;clear ai;clear hb
  (try dsimp only)
  go_upto_region 20 with (((refine jO rfl rfl (i:=2) (v:= .int .u16 s) (cs':= #[.int .u8 8,.int .u8 0,.int .u16 s,.int .u32 (Go.bits .or .u32 (fr % 4294967296*65536 % 4294967296) (n % 4294967296)),.slice (some ⟨gd,0,none⟩) l.length 16]) kC.out rfl ?eY ?_);(case eY=>(have m_:=(aN kC.out 2).trans (rfl:_=some (.int .u16 0:Value)));(have pU:=ae kC.out 2);first|(go_simp;done)|(go_simp;rfl));intro w8 hs_ ag;have gY:=aa.mk (j7.below ag HB.out JR.out);have pq:=aa.mk (j7.blk ag cL.out kC.out (by decide));clear HB cL kC ag;have kC:=aa.mk hs_;clear hs_;have HB:=gY;have cL:=pq;clear gY pq))
  go_wp2_with (refine Kd.bU rfl (bM rfl rfl kC.out Try.underlying101 rfl jD.out) ?_)
  obtain ⟨⟨b,be⟩,hb0,H⟩:=bR H;obtain rfl:=cN H;have yU:=aa.mk (show Kd.C (Kd.int .u8) w8 (some ⟨gd,0,none⟩) l.length l by rw [Qs.out];exact l5 cL.out rfl Ef.out (by decide));refine (bG.calls 8 0 s (Go.bits .or .u32 (fr % 4294967296*65536 % 4294967296) (n % 4294967296)) (some ⟨gd,0,none⟩) 16 l b be _ yU.out TQ.out hb0).mono ?_;rintro e w9 ⟨v_,rfl,ho,hb⟩;have Mb:=aa.mk (Kd.bP ho (af HB.out));clear ho hb0 yU;have ai:=hb;replace HB:=mB HB ai;clear ai;clear hb
  (try dsimp only)
  go_wp2
  (try simp only [Exit.inBlock,Exit.then])
  go_ret
  exact ⟨_,rfl,Mb.out,HB.out⟩
 have ci1:(Go.bits .and .u8 fl 1==0)=false:=fq ci
 have ci2:(Go.bits .and .u8 fl 1 !=0)=true:=bne_iff_ne.2 ci;rw [av ci] at H
 clear ci
 (try dsimp only)
 go_upto_region 19 with (((refine jO rfl rfl (i:=0) (v:= .int .u8 0) (cs':= #[.int .u8 0,.int .u8 0,.int .u16 0,.int .u32 (Go.bits .or .u32 (fr % 4294967296*65536 % 4294967296) (n % 4294967296)),.slice (some ⟨gd,0,none⟩) l.length 16]) kC.out rfl ?eY ?_);(case eY=>(have m_:=(aN kC.out 0).trans (rfl:_=some (.int .u8 8:Value)));(have pU:=ae kC.out 0);first|(go_simp;done)|(go_simp;rfl));intro w6 hs_ ag;have gY:=aa.mk (j7.below ag HB.out JR.out);have pq:=aa.mk (j7.blk ag cL.out kC.out (by decide));clear HB cL kC ag;have kC:=aa.mk hs_;clear hs_;have HB:=gY;have cL:=pq;clear gY pq))
 go_wp2_with (refine Kd.bU rfl (bM rfl rfl kC.out Try.underlying101 rfl jD.out) ?_)
 obtain ⟨s,hs0,H⟩:=bR H;have yU:=aa.mk (show Kd.C (Kd.int .u8) w6 (some ⟨gd,0,none⟩) l.length l by rw [Qs.out];exact l5 cL.out rfl Ef.out (by decide));refine (fE.calls k 0 0 0 (Go.bits .or .u32 (fr % 4294967296*65536 % 4294967296) (n % 4294967296)) (some ⟨gd,0,none⟩) 16 l s _ yU.out TQ.out hs0).mono ?_;rintro e w7 ⟨rfl,hb⟩;clear hs0 yU;have ai:=hb;replace HB:=mB HB ai;replace cL:=mX cL ai;replace kC:=mX kC ai;clear ai;clear hb
 (try dsimp only)
 go_upto_region 20 with (((refine jO rfl rfl (i:=2) (v:= .int .u16 s) (cs':= #[.int .u8 0,.int .u8 0,.int .u16 s,.int .u32 (Go.bits .or .u32 (fr % 4294967296*65536 % 4294967296) (n % 4294967296)),.slice (some ⟨gd,0,none⟩) l.length 16]) kC.out rfl ?eY ?_);(case eY=>(have m_:=(aN kC.out 2).trans (rfl:_=some (.int .u16 0:Value)));(have pU:=ae kC.out 2);first|(go_simp;done)|(go_simp;rfl));intro w8 hs_ ag;have gY:=aa.mk (j7.below ag HB.out JR.out);have pq:=aa.mk (j7.blk ag cL.out kC.out (by decide));clear HB cL kC ag;have kC:=aa.mk hs_;clear hs_;have HB:=gY;have cL:=pq;clear gY pq))
 go_wp2_with (refine Kd.bU rfl (bM rfl rfl kC.out Try.underlying101 rfl jD.out) ?_)
 obtain ⟨⟨b,be⟩,hb0,H⟩:=bR H;obtain rfl:=cN H;have yU:=aa.mk (show Kd.C (Kd.int .u8) w8 (some ⟨gd,0,none⟩) l.length l by rw [Qs.out];exact l5 cL.out rfl Ef.out (by decide));refine (bG.calls 0 0 s (Go.bits .or .u32 (fr % 4294967296*65536 % 4294967296) (n % 4294967296)) (some ⟨gd,0,none⟩) 16 l b be _ yU.out TQ.out hb0).mono ?_;rintro e w9 ⟨v_,rfl,ho,hb⟩;have Mb:=aa.mk (Kd.bP ho (af HB.out));clear ho hb0 yU;have ai:=hb;replace HB:=mB HB ai;clear ai;clear hb
 (try dsimp only)
 go_wp2
 (try simp only [Exit.inBlock,Exit.then])
 go_ret
 exact ⟨_,rfl,Mb.out,HB.out⟩
end Go.Proofs.Ytkmimamminddiaa.PB
