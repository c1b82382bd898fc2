/- Texts of this claim, merged: RwPkt, RwKn, PBx30, PBx32, PBx55, PBx34, Spec, SpecSum, BytesEq, BytesEqB, FT, SumEq, SumEqP, SumEqO, PBx1, PBx57, RwTs, PBx29, PBx31, FU, FU2, FI. -/
import Derived.Test.YtkmimamminddiaaZob
import Derived.Test.YtkmimamminddiaaZoe
import Derived.Deep.Cut
import Derived.Deep.CutRange
import Derived.Deep.CutBlock
import Derived.Deep.WholeRow
import Derived.BigQuiet
import Derived.Deep.QuietTactic
import Derived.Test.YtkmimamminddiaaZod
import Derived.Laws.BitsAllLaws
import Derived.Laws.BitsLemmas
import Derived.RowKit
import Derived.Test.YtkmimamminddiaaZoc
set_option maxHeartbeats 40000000
set_option maxRecDepth 100000
set_option linter.unusedVariables false
set_option linter.unusedSimpArgs false
namespace Go.Proofs.Ytkmimamminddiaa.PB
open Go.RowKit Go.Proofs.YtkmimamminddiaaW.PrintWords Go.Proofs.YtkmimamminddiaaW.PrintLast Go.Proofs.YtkmimamminddiaaW.PrintMore
def seat_packet.sw (p6 pr:Int):Int×Int×Int×Int×List Int:=
 if p6.tmod 16=0 then (p6.tdiv 16 % 256 % 3,pr,2,0,[])
 else if p6.tmod 16=1 then (64,pr,1,0,[])
 else if p6.tmod 16=2 then (64,pr,2,5,[])
 else if p6.tmod 16=3 then (64,47,2,0,[])
 else if p6.tmod 16=4 then (64,pr,2,0,[1,1,1,1])
 else (64,pr,2,0,[])
def seat_packet.sd (k:Nat) (p1 p2 side n:Int) (s0 d0:Int):Option (Int×Int):=
 if side=0 then some (s0,d0) else (bK.f k p1 (n % 256)).bind fun s=>(bK.f k ((5+p2.tmod 3) % 256) (n % 256)).bind fun d=>some (s,d)
def seat_packet.er (k:Nat) (pr s d fr tp p5 p7 p8:Int) (x:List Int):Option (Int×List Int):=
 if p7.tmod 5=4 then (qL.f k pr d s tp fr p5 p8).bind fun y=>(aA.f k 0 3 pr 0 0 0 d s [] y).bind fun q=>(jg.f k (rd [3,11,12] (p8.tmod 3)) 0 0 0 q.1).bind fun c=>(bI.f (rd [3,11,12] (p8.tmod 3)) 0 c 0 q.1).bind fun m=>some (1,m.1)
 else some (pr,x)
def seat_packet.sp (p8 p9:Int) (b:List Int):List Int:=
 if p9.tmod 8=7 then (if 0<b.length then b.set (p9.tmod (b.length:Int)).toNat (Go.bits .xor .u8 (rd b (p9.tmod (b.length:Int))) (IntKind.u8.wrap (2 ^ (p8.tmod 8).toNat))) else b) else b
def seat_packet.f (k:Nat) (p0 p1 p2 p3 p4 p5 p6 p7 p8 p9 side n:Int):Option (List Int):=
 (pM.f p1).bind fun s0=>(bK.f k p2 (n % 256)).bind fun d0=>(seat_packet.sd k p1 p2 side n s0 d0).bind fun sd=>
 (qJ.f p0).bind fun pr=>(lu.f p3).bind fun fr=>(lu.f p4).bind fun tp=>(qL.f k pr sd.1 sd.2 fr tp p5 p8).bind fun x=>
 (seat_packet.er k pr sd.1 sd.2 fr tp p5 p7 p8 x).bind fun px=>
 (aA.f k 0 (seat_packet.sw p6 px.1).1 (seat_packet.sw p6 px.1).2.1 (IntKind.u16.wrap p8) (seat_packet.sw p6 px.1).2.2.1 (seat_packet.sw p6 px.1).2.2.2.1 sd.1 sd.2 (seat_packet.sw p6 px.1).2.2.2.2 px.2).bind fun b=>some (seat_packet.sp p8 p9 b.1)
theorem Ls {K:Act ->World ->Prop} {Q:Exit ->Act ->World ->Prop} {e:Exit} {a:Act} {w:World} {n:Nat} (h:∀ W,Below w.heap.size w W ->Exit.then K Q e a W):Exit.then K Q e a (w.drewN n):=h _ (fZ (Below.refl _ _) n)
theorem AjH {w:World} {g:Nat} (h:w.heap[g]?=some (.cells #[.int .u8 3,.int .u8 11,.int .u8 12] 5 (0,0))) (i:Int) (h0:0<=i) (h1:i<3):w.cell? ⟨g,i.toNat,none⟩=some (.int .u8 (rd [3,11,12] i)):=by
 obtain rfl|rfl|rfl:i=0 \/ i=1 \/ i=2:=by omega
 all_goals exact (blk_cell h _).trans rfl
def seat_packet.R28.T:Bool×List (List Nat×List Nat):=(true,[([],[]),([],[]),([1],[1]),([2],[2]),([],[]),([4],[4]),([3,5],[3,5]),([0,6],[0,6]),([7],[7]),([],[]),([9],[9]),([10],[10]),([11],[11]),([8,12],[8,12]),([0,6,0,1,2,3,4,5,6,7,8,9,10,11,12,13],[0,6]),([14,13,0,1,2,3,4,5,6,7,8,9,10,11,12,13],[13,14])])
theorem seat_packet.R28.tab:rtab .any (opsOf Try.f17 28)=seat_packet.R28.T:=by kernel_rfl
theorem seat_packet.R28.bits:waitsOk seat_packet.R28.T.2 [0,0,2,6,0,16,62,127,255,0,512,1536,3584,8191,16383,32767]=true:=by kernel_rfl
theorem seat_packet.calls (k:Nat) (p0 p1 p2 p3 p4 p5 p6 p7 p8 p9 side n:Int) (r:List Int) (w:World) (hn:(0<=p8 /\ p8<=255) /\ (0<=p9 /\ p9<=255)) (h:seat_packet.f k p0 p1 p2 p3 p4 p5 p6 p7 p8 p9 side n=some r):
  Calls Try.prog 17 #[.agg #[.int .u8 p0,.int .u8 p1,.int .u8 p2,.int .u8 p3,.int .u8 p4,.int .u8 p5,.int .u8 p6,.int .u8 p7,.int .u8 p8,.int .u8 p9],.int .i64 side,.int .i64 n] w fun e w'=>∃ uP:Value,e= .returned uP /\ Kd.R (Kd.int .u8) 5 w' w.heap.size (fun _=>True) uP r /\ Below w.heap.size w w':=by
 have hu25:=Try.underlying25;have hu73:=Try.underlying73;have uQ:=Try.underlying101;have HB:=jy w;have HI25:Aside0 ((Try.prog.info? 25).map (·.size)=some 10):=⟨by kernel_rfl⟩
 have HI73:Aside0 ((Try.prog.info? 73).map (·.size)=some 10):=⟨by kernel_rfl⟩
 have ou:Aside0 ((Try.prog.info? 101).map (·.size)=some 5):=⟨by kernel_rfl⟩
 have HN:=Aside0.mk hn;have H:seat_packet.f k p0 p1 p2 p3 p4 p5 p6 p7 p8 p9 side n=some r:=h;clear h hn;unfold seat_packet.f at H
 obtain ⟨s0,hs0,H⟩:=dI H;obtain ⟨d0,hd0,H⟩:=dI H;obtain ⟨⟨src,dst⟩,hsd,H⟩:=dI H;obtain ⟨pr,hpr,H⟩:=dI H;obtain ⟨fr,hfr,H⟩:=dI H;obtain ⟨tp,htp,H⟩:=dI H;obtain ⟨x,hx,H⟩:=dI H;obtain ⟨⟨pr2,x2⟩,her,H⟩:=dI H;obtain ⟨⟨b,be⟩,hbb,H⟩:=dI H;obtain rfl:=eF H;dsimp only at hx her hbb|-
 obtain ⟨⟨ttl,pr3,fl2,of2,op⟩,hsw⟩:∃ x,x=seat_packet.sw p6 pr2:=⟨_,rfl⟩
 rw [<- hsw] at hbb
 dsimp only at hbb
 have HSW:=Aside0.mk hsw.symm;clear hsw;have Q1:Aside0 (∀ W:World,Calls Try.prog 49 #[.int .u8 p1] W fun e w'=>e= .returned (.int .u32 s0) /\ bf W w'):=⟨fun W=>pM.calls p1 s0 W hs0⟩
 have Q2:Aside0 (∀ W:World,Calls Try.prog 50 #[.int .u8 p2,.int .u8 (n % 256)] W fun e w'=>e= .returned (.int .u32 d0) /\ bf W w'):=⟨fun W=>bK.calls k p2 (n % 256) d0 W hd0⟩
 have Q5:Aside0 (∀ W:World,Calls Try.prog 52 #[.int .u8 p3] W fun e w'=>e= .returned (.int .u16 fr) /\ bf W w'):=⟨fun W=>lu.calls p3 fr W hfr⟩
 have Q6:Aside0 (∀ W:World,Calls Try.prog 52 #[.int .u8 p4] W fun e w'=>e= .returned (.int .u16 tp) /\ bf W w'):=⟨fun W=>lu.calls p4 tp W htp⟩
 have HSD:=Aside0.mk hsd;have HPR:=Aside0.mk hpr;have HX1:=Aside0.mk hx;have HER:=Aside0.mk her;have HBB:=Aside0.mk hbb;clear hs0 hd0 hsd hpr hfr htp hx her hbb H
 go_enter Try.func17,Try.ntmps17
 go_upto_region 1 with (((with_reducible refine gate_dst (N:=3) rfl ?_);refine Kd.event_run rfl (v:= .pointer (some ⟨w.heap.size,0,none⟩)) (w1:=w.alloc (.cells #[.int .u8 p0,.int .u8 p1,.int .u8 p2,.int .u8 p3,.int .u8 p4,.int .u8 p5,.int .u8 p6,.int .u8 p7,.int .u8 p8,.int .u8 p9] 25)) (by first|(go_simp;done)|(go_simp;rfl)) ?_))
 obtain ⟨gp,Je⟩:∃ x_,x_=w.heap.size:=⟨_,rfl⟩
 have HXp:Aside0 ((w.alloc (.cells #[.int .u8 p0,.int .u8 p1,.int .u8 p2,.int .u8 p3,.int .u8 p4,.int .u8 p5,.int .u8 p6,.int .u8 p7,.int .u8 p8,.int .u8 p9] 25)).heap[gp]?=some (.cells #[.int .u8 p0,.int .u8 p1,.int .u8 p2,.int .u8 p3,.int .u8 p4,.int .u8 p5,.int .u8 p6,.int .u8 p7,.int .u8 p8,.int .u8 p9] 25 (0,0))):=⟨by rw [Je];exact kW _ _⟩
 have GHXp:=Aside0.mk (show w.heap.size<=gp by rw [Je];exact below_size HB.out);rw [<- Je];clear Je;have hb_:=fA (Below.refl w.heap.size w) (.cells #[.int .u8 p0,.int .u8 p1,.int .u8 p2,.int .u8 p3,.int .u8 p4,.int .u8 p5,.int .u8 p6,.int .u8 p7,.int .u8 p8,.int .u8 p9] 25);replace HB:=mB HB hb_;clear hb_;generalize (w.alloc (.cells #[.int .u8 p0,.int .u8 p1,.int .u8 p2,.int .u8 p3,.int .u8 p4,.int .u8 p5,.int .u8 p6,.int .u8 p7,.int .u8 p8,.int .u8 p9] 25))=w1 at HXp HB|-
 have AaV:=cz HXp.out 1 rfl;have uM:=cz HXp.out 2 rfl
 go_wp2_with fail
 go_quiet ((first
  |(go_at_call 49;(with_reducible refine (Q1.out _).mono ?_);rintro e w' ⟨rfl,⟨nd,rfl⟩⟩;exact ⟨rfl,_,rfl⟩)
  |(go_at_call 49;(with_reducible refine (Q1.out _).mono ?_);rintro e w' ⟨rfl,⟨nd,rfl⟩⟩;exact ⟨rfl,_,World.drewN_drewN _ _ _⟩)
  |(go_at_call 49;(with_reducible refine (Q1.out _).mono ?_);rintro e w' ⟨rfl,⟨nd,rfl⟩⟩;exact ⟨rfl,_,Eq.trans (World.drewN_drewN _ _ _) (congrArg (World.drewN _) (Nat.add_assoc _ _ _))⟩)
  |(go_at_call 50;(with_reducible refine (Q2.out _).mono ?_);rintro e w' ⟨rfl,⟨nd,rfl⟩⟩;exact ⟨rfl,_,rfl⟩)
  |(go_at_call 50;(with_reducible refine (Q2.out _).mono ?_);rintro e w' ⟨rfl,⟨nd,rfl⟩⟩;exact ⟨rfl,_,World.drewN_drewN _ _ _⟩)
  |(go_at_call 50;(with_reducible refine (Q2.out _).mono ?_);rintro e w' ⟨rfl,⟨nd,rfl⟩⟩;exact ⟨rfl,_,Eq.trans (World.drewN_drewN _ _ _) (congrArg (World.drewN _) (Nat.add_assoc _ _ _))⟩)))
 refine Ls ?_;intro w2 hb;have hb_:=hb;replace HB:=mB HB hb_;replace HXp:=mX HXp hb_;clear hb_;clear hb AaV uM
 go_upto_if 29 with (fail)
 go_cut [7,8] from 30 to 41 (fun s7 s8 w'=>s7= .int .u32 src /\ s8= .int .u32 dst /\ Aside0 (w'.heap[gp]?=some (.cells #[.int .u8 p0,.int .u8 p1,.int .u8 p2,.int .u8 p3,.int .u8 p4,.int .u8 p5,.int .u8 p6,.int .u8 p7,.int .u8 p8,.int .u8 p9] 25 (0,0))) /\ Aside0 (Below w.heap.size w w'))
 case first=>
  by_cases gs:side=0
  ·have gs1:(side !=0)=false:=by rw [bne,jf gs];rfl
   have gs2:(side==0)=true:=jf gs
   have hs:s0=src /\ d0=dst:=by
    have h:=HSD.out;unfold seat_packet.sd at h
    rw [ah gs] at h
    simp only [Option.some.injEq,Prod.mk.injEq] at h
    exact h
   obtain ⟨rfl,rfl⟩:=hs;clear gs
   go_wp2
   go_meet
   case rel=>exact ⟨rfl,rfl,⟨HXp.out⟩,⟨HB.out⟩⟩
  ·have gs1:(side !=0)=true:=bne_iff_ne.2 gs
   have gs2:(side==0)=false:=iM gs
   have hs:(bK.f k p1 (n % 256)).bind (fun s=>(bK.f k ((5+p2.tmod 3) % 256) (n % 256)).bind fun d=>some (s,d))=some (src,dst):=by
    have h:=HSD.out;unfold seat_packet.sd at h
    rwa [aj gs] at h
   obtain ⟨sx,hsx,hs⟩:=dI hs;obtain ⟨dx,hdx,hs⟩:=dI hs;simp only [Option.some.injEq,Prod.mk.injEq] at hs
   obtain ⟨rfl,rfl⟩:=hs;have Q3:Aside0 (∀ W:World,Calls Try.prog 50 #[.int .u8 p1,.int .u8 (n % 256)] W fun e w'=>e= .returned (.int .u32 sx) /\ bf W w'):=⟨fun W=>bK.calls k p1 (n % 256) sx W hsx⟩
   have Q4:Aside0 (∀ W:World,Calls Try.prog 50 #[.int .u8 ((5+p2.tmod 3) % 256),.int .u8 (n % 256)] W fun e w'=>e= .returned (.int .u32 dx) /\ bf W w'):=⟨fun W=>bK.calls k ((5+p2.tmod 3) % 256) (n % 256) dx W hdx⟩
   clear gs hsx hdx
   (try dsimp only)
   have AaV:=cz HXp.out 1 rfl;have uM:=cz HXp.out 2 rfl
   go_wp2_with fail
   go_quiet ((first
    |(go_at_call 50;(with_reducible refine (Q3.out _).mono ?_);rintro e w' ⟨rfl,⟨nd,rfl⟩⟩;exact ⟨rfl,_,rfl⟩)
    |(go_at_call 50;(with_reducible refine (Q3.out _).mono ?_);rintro e w' ⟨rfl,⟨nd,rfl⟩⟩;exact ⟨rfl,_,World.drewN_drewN _ _ _⟩)
    |(go_at_call 50;(with_reducible refine (Q3.out _).mono ?_);rintro e w' ⟨rfl,⟨nd,rfl⟩⟩;exact ⟨rfl,_,Eq.trans (World.drewN_drewN _ _ _) (congrArg (World.drewN _) (Nat.add_assoc _ _ _))⟩)
    |(go_at_call 50;(with_reducible refine (Q4.out _).mono ?_);rintro e w' ⟨rfl,⟨nd,rfl⟩⟩;exact ⟨rfl,_,rfl⟩)
    |(go_at_call 50;(with_reducible refine (Q4.out _).mono ?_);rintro e w' ⟨rfl,⟨nd,rfl⟩⟩;exact ⟨rfl,_,World.drewN_drewN _ _ _⟩)
    |(go_at_call 50;(with_reducible refine (Q4.out _).mono ?_);rintro e w' ⟨rfl,⟨nd,rfl⟩⟩;exact ⟨rfl,_,Eq.trans (World.drewN_drewN _ _ _) (congrArg (World.drewN _) (Nat.add_assoc _ _ _))⟩)))
   refine Ls ?_;intro w3 hb;have hb_:=hb;replace HXp:=mX HXp hb_;replace HB:=mB HB hb_;clear hb_;clear hb AaV uM
   go_wp2
   go_meet
   case rel=>exact ⟨rfl,rfl,⟨HXp.out⟩,⟨HB.out⟩⟩
 case rest=>
  obtain ⟨rfl,rfl,nM,jJ⟩:=hcut;clear HXp HB;have HXp:=nM;have HB:=jJ;clear nM jJ;have Avd:=cz HXp.out 0 rfl
  go_wp2_with fail
  refine (qJ.calls p0 pr _ HPR.out).mono ?_;rintro e w4 ⟨rfl,hb⟩;have hb_:=hb;replace HB:=mB HB hb_;replace HXp:=mX HXp hb_;clear hb_;clear hb Avd
  (try dsimp only)
  have Ave:=cz HXp.out 3 rfl;have Avf:=cz HXp.out 4 rfl
  go_wp2_with fail
  go_quiet ((first
   |(go_at_call 52;(with_reducible refine (Q5.out _).mono ?_);rintro e w' ⟨rfl,⟨nd,rfl⟩⟩;exact ⟨rfl,_,rfl⟩)
   |(go_at_call 52;(with_reducible refine (Q5.out _).mono ?_);rintro e w' ⟨rfl,⟨nd,rfl⟩⟩;exact ⟨rfl,_,World.drewN_drewN _ _ _⟩)
   |(go_at_call 52;(with_reducible refine (Q5.out _).mono ?_);rintro e w' ⟨rfl,⟨nd,rfl⟩⟩;exact ⟨rfl,_,Eq.trans (World.drewN_drewN _ _ _) (congrArg (World.drewN _) (Nat.add_assoc _ _ _))⟩)
   |(go_at_call 52;(with_reducible refine (Q6.out _).mono ?_);rintro e w' ⟨rfl,⟨nd,rfl⟩⟩;exact ⟨rfl,_,rfl⟩)
   |(go_at_call 52;(with_reducible refine (Q6.out _).mono ?_);rintro e w' ⟨rfl,⟨nd,rfl⟩⟩;exact ⟨rfl,_,World.drewN_drewN _ _ _⟩)
   |(go_at_call 52;(with_reducible refine (Q6.out _).mono ?_);rintro e w' ⟨rfl,⟨nd,rfl⟩⟩;exact ⟨rfl,_,Eq.trans (World.drewN_drewN _ _ _) (congrArg (World.drewN _) (Nat.add_assoc _ _ _))⟩)))
  refine Ls ?_;intro w5 hb;have hb_:=hb;replace HB:=mB HB hb_;replace HXp:=mX HXp hb_;clear hb_;clear hb Ave Avf;have AjI:=cz HXp.out 5 rfl;have PR:=cz HXp.out 8 rfl
  go_wp2_with fail
  refine (qL.calls k pr src dst fr tp p5 p8 x _ HN.out.1 HX1.out).mono ?_;rintro e w6 ⟨v_,rfl,ho,hb⟩;have HRx:=Aside0.mk (Kd.R_lower ho (below_size HB.out));obtain ⟨Ax,cx,rfl,_,_⟩:=Kd.R_reads ho;clear ho;have hb_:=hb;replace HB:=mB HB hb_;replace HXp:=mX HXp hb_;clear hb_;clear hb AjI PR
  (try dsimp only)
  have PR:=cz HXp.out 8 rfl
  go_upto_region 8 with ((first|(refine rq rfl rfl (zT rfl rfl rfl HI73.out rfl (by simp [Value.oneCell'])) ?_)))
  clear PR;obtain ⟨gi,hgi⟩:∃ x_,x_=w6.heap.size:=⟨_,rfl⟩
  have aU:Aside0 ((w6.alloc (.cells #[.int .u8 0,.int .u8 64,.int .u8 pr,.int .u16 (IntKind.u16.wrap p8),.int .u8 2,.int .u16 0,.int .u32 src,.int .u32 dst,.slice none 0 0,.slice Ax x.length cx] 73)).heap[gi]?=some (.cells #[.int .u8 0,.int .u8 64,.int .u8 pr,.int .u16 (IntKind.u16.wrap p8),.int .u8 2,.int .u16 0,.int .u32 src,.int .u32 dst,.slice none 0 0,.slice Ax x.length cx] 73 (0,0))):=⟨by rw [hgi];exact kW _ _⟩
  have o6:=Aside0.mk (show w.heap.size<=gi by rw [hgi];exact below_size HB.out);rw [<- hgi];clear hgi;have hb_:=fA (Below.refl w6.heap.size w6) (.cells #[.int .u8 0,.int .u8 64,.int .u8 pr,.int .u16 (IntKind.u16.wrap p8),.int .u8 2,.int .u16 0,.int .u32 src,.int .u32 dst,.slice none 0 0,.slice Ax x.length cx] 73);replace HB:=mB HB hb_;replace HXp:=mX HXp hb_;replace HRx:=mR HRx hb_;clear hb_;generalize (w6.alloc (.cells #[.int .u8 0,.int .u8 64,.int .u8 pr,.int .u16 (IntKind.u16.wrap p8),.int .u8 2,.int .u16 0,.int .u32 src,.int .u32 dst,.slice none 0 0,.slice Ax x.length cx] 73))=w8 at aU HB HXp HRx|-
  have BG:=cz HXp.out 7 rfl
  go_upto_if 72 with (fail)
  clear BG
  go_cut [] from 14 to 109 (fun w'=>∃ (A:Option Addr) (c_:Nat),Aside0 (Kd.R (Kd.int .u8) 5 w' w.heap.size (fun _=>True) (.slice A x2.length c_) x2) /\ Aside0 (w'.heap[gi]?=some (.cells #[.int .u8 0,.int .u8 64,.int .u8 pr2,.int .u16 (IntKind.u16.wrap p8),.int .u8 2,.int .u16 0,.int .u32 src,.int .u32 dst,.slice none 0 0,.slice A x2.length c_] 73 (0,0))) /\ Aside0 (w'.heap[gp]?=some (.cells #[.int .u8 p0,.int .u8 p1,.int .u8 p2,.int .u8 p3,.int .u8 p4,.int .u8 p5,.int .u8 p6,.int .u8 p7,.int .u8 p8,.int .u8 p9] 25 (0,0))) /\ Aside0 (Below w.heap.size w w'))
  case first=>
   by_cases ge:p7.tmod 5=4
   ·have ge1:(p7.tmod 5==4)=true:=jf ge
    have ge2:(p7.tmod 5 !=4)=false:=by rw [bne,ge1];rfl
    have he:(qL.f k pr dst src tp fr p5 p8).bind (fun y=>(aA.f k 0 3 pr 0 0 0 dst src [] y).bind fun q=>(jg.f k (rd [3,11,12] (p8.tmod 3)) 0 0 0 q.1).bind fun c=>(bI.f (rd [3,11,12] (p8.tmod 3)) 0 c 0 q.1).bind fun m=>some (1,m.1))=some (pr2,x2):=by
     have h:=HER.out;unfold seat_packet.er at h
     rwa [ah ge] at h
    obtain ⟨y,hy,he⟩:=dI he;obtain ⟨⟨q,qe⟩,hq,he⟩:=dI he;obtain ⟨c,hc,he⟩:=dI he;obtain ⟨⟨m,me⟩,hm,he⟩:=dI he;simp only [Option.some.injEq,Prod.mk.injEq] at he
    obtain ⟨rfl,rfl⟩:=he;dsimp only at hc hm
    obtain ⟨ty,hty⟩:∃ ty,ty=rd [3,11,12] (p8.tmod 3):=⟨_,rfl⟩
    rw [<- hty] at hc hm
    have HY:=Aside0.mk hy;have HQ_:=Aside0.mk hq;have HC_:=Aside0.mk hc;have HM_:=Aside0.mk hm;have HTY:=Aside0.mk hty;clear ge hy hq hc hm hty;have AjI:=cz HXp.out 5 rfl;have PR:=cz HXp.out 8 rfl
    go_wp2_with fail
    refine (qL.calls k pr dst src tp fr p5 p8 y _ HN.out.1 HY.out).mono ?_;rintro e w9 ⟨v_,rfl,ho,hb⟩;have HRy:=Aside0.mk (Kd.R_lower ho (below_size HB.out));obtain ⟨Ay,cy,rfl,hcy,hky⟩:=Kd.R_reads ho;have HCy:=Aside0.mk hky;have HLy:=Aside0.mk hcy;clear hky hcy;clear ho HY;have hb_:=hb;replace HB:=mB HB hb_;replace HXp:=mX HXp hb_;replace aU:=mX aU hb_;replace HRx:=mR HRx hb_;clear hb_;clear hb AjI PR
    (try dsimp only)
    go_upto_region 10 with ((first|(refine rq rfl rfl (zT rfl rfl rfl HI73.out rfl (by simp [Value.oneCell'])) ?_)))
    obtain ⟨gn,hgn⟩:∃ x_,x_=w9.heap.size:=⟨_,rfl⟩
    have bZ:Aside0 ((w9.alloc (.cells #[.int .u8 0,.int .u8 3,.int .u8 pr,.int .u16 0,.int .u8 0,.int .u16 0,.int .u32 dst,.int .u32 src,.slice none 0 0,.slice Ay y.length cy] 73)).heap[gn]?=some (.cells #[.int .u8 0,.int .u8 3,.int .u8 pr,.int .u16 0,.int .u8 0,.int .u16 0,.int .u32 dst,.int .u32 src,.slice none 0 0,.slice Ay y.length cy] 73 (0,0))):=⟨by rw [hgn];exact kW _ _⟩
    have IV:=Aside0.mk (show w.heap.size<=gn by rw [hgn];exact below_size HB.out);rw [<- hgn];clear hgn;have hb_:=fA (Below.refl w9.heap.size w9) (.cells #[.int .u8 0,.int .u8 3,.int .u8 pr,.int .u16 0,.int .u8 0,.int .u16 0,.int .u32 dst,.int .u32 src,.slice none 0 0,.slice Ay y.length cy] 73);replace HB:=mB HB hb_;replace HXp:=mX HXp hb_;replace aU:=mX aU hb_;replace HRx:=mR HRx hb_;replace HCy:=mC HCy hb_;clear hb_;generalize (w9.alloc (.cells #[.int .u8 0,.int .u8 3,.int .u8 pr,.int .u16 0,.int .u8 0,.int .u16 0,.int .u32 dst,.int .u32 src,.slice none 0 0,.slice Ay y.length cy] 73))=w10 at bZ HB HXp aU HRx HCy|-
    go_wp2_with (refine Kd.event_run rfl (rw_load rfl rfl bZ.out Try.underlying73 rfl HI73.out) ?_)
    refine (aA.calls k 0 3 pr 0 0 0 dst src none 0 [] Ay cy y q qe _ (Kd.JM _ _) (Nat.le_refl _) HCy.out HLy.out HQ_.out).mono ?_;rintro e w11 ⟨v_,rfl,ho,hb⟩;have TL:=Aside0.mk (Kd.R_lower ho (below_size HB.out));obtain ⟨Aq,cq,rfl,hcq,_⟩:=Kd.R_reads ho;have HLq:=Aside0.mk hcq;clear ho HQ_ HCy bZ IV HRy HLy hcq;have hb_:=hb;replace HB:=mB HB hb_;replace HXp:=mX HXp hb_;replace aU:=mX aU hb_;replace HRx:=mR HRx hb_;clear hb_;clear hb
    (try dsimp only)
    have PR:=cz HXp.out 8 rfl;have hidx:p8.tmod 3<3:=Int.tmod_lt_of_pos _ (by decide);have Agc:0<=p8.tmod 3:=Int.tmod_nonneg _ HN.out.1.1
    go_upto_region 12 with (first|((with_reducible refine gate_dst (N:=92) rfl ?_);refine Y1 ?hg_ (cs:= #[.int .u8 3,.int .u8 11,.int .u8 12]) (t:=5) (n:=3) ?hr_ ?_;(case hg_=>rfl);(case hr_=>first|(go_simp;done)|(go_simp;rfl));intro gl w12 AoX hgl SH;have HXl:=Aside0.mk AoX;clear AoX hgl PR;have hb_:=SH;replace HB:=mB HB hb_;replace HXp:=mX HXp hb_;replace aU:=mX aU hb_;replace HRx:=mR HRx hb_;replace TL:=mR TL hb_;clear hb_;clear SH;have PR:w12.cell? ⟨gp,8,none⟩=some (.int .u8 p8):=(blk_cell HXp.out 8).trans rfl;have hl_:w12.cell? ⟨gl,(p8.tmod 3).toNat,none⟩=some (.int .u8 ty):=by (rw [HTY.out];exact AjH HXl.out _ Agc hidx))|(first|(refine rq rfl rfl (zT rfl rfl rfl ou.out rfl (by simp [Value.oneCell'])) ?_)))
    clear hidx Agc PR hl_ HXl;obtain ⟨gm,hgm⟩:∃ x_,x_=w12.heap.size:=⟨_,rfl⟩
    have oL:Aside0 ((w12.alloc (.cells #[.int .u8 ty,.int .u8 0,.int .u16 0,.int .u32 0,.slice Aq q.length cq] 101)).heap[gm]?=some (.cells #[.int .u8 ty,.int .u8 0,.int .u16 0,.int .u32 0,.slice Aq q.length cq] 101 (0,0))):=⟨by rw [hgm];exact kW _ _⟩
    have RJ:=Aside0.mk (show w.heap.size<=gm by rw [hgm];exact below_size HB.out);rw [<- hgm];clear hgm;have hb_:=fA (Below.refl w12.heap.size w12) (.cells #[.int .u8 ty,.int .u8 0,.int .u16 0,.int .u32 0,.slice Aq q.length cq] 101);replace HB:=mB HB hb_;replace HXp:=mX HXp hb_;replace aU:=mX aU hb_;replace HRx:=mR HRx hb_;replace TL:=mR TL hb_;clear hb_;generalize (w12.alloc (.cells #[.int .u8 ty,.int .u8 0,.int .u16 0,.int .u32 0,.slice Aq q.length cq] 101))=w17 at oL HB HXp aU HRx TL|-
    go_wp2_with (refine Kd.event_run rfl (rw_load rfl rfl oL.out Try.underlying101 rfl ou.out) ?_)
    refine (jg.calls k ty 0 0 0 Aq cq q c _ (Kd.R_reads' TL.out).2.2 HLq.out HC_.out).mono ?_;rintro e w18 ⟨rfl,hb⟩;clear HC_;have hb_:=hb;replace HB:=mB HB hb_;replace HXp:=mX HXp hb_;replace aU:=mX aU hb_;replace oL:=mX oL hb_;replace HRx:=mR HRx hb_;replace TL:=mR TL hb_;clear hb_;clear hb
    (try dsimp only)
    go_upto_region 14 with (first|((refine rw_set rfl rfl (i:=2) (v:= .int .u16 c) (cs':= #[.int .u8 ty,.int .u8 0,.int .u16 c,.int .u32 0,.slice Aq q.length cq]) oL.out rfl ?hr_ ?_);(case hr_=>(have m_:=(blk_cell oL.out 2).trans (rfl:_=some (.int .u16 0:Value)));(have mf_:=blk_frozen oL.out 2);first|(go_simp;done)|(go_simp;rfl));intro w13 hs_ off_;have jJ:=Aside0.mk (Off.below off_ HB.out RJ.out);have nM:=Aside0.mk (Off.blk off_ HXp.out oL.out (by decide));have DF:=Aside0.mk (Off.blk off_ aU.out oL.out (by decide));have ql:=Aside0.mk (Off.R off_ HRx.out oL.out (by decide));have SY:=Aside0.mk (Off.R off_ TL.out oL.out (by decide));clear HB HXp aU HRx TL oL off_;have oL:=Aside0.mk hs_;clear hs_;have HB:=jJ;have HXp:=nM;have aU:=DF;have HRx:=ql;have TL:=SY;clear jJ nM DF ql SY)|((refine rw_set rfl rfl (i:=2) (v:= .int .u8 1) (cs':= #[.int .u8 0,.int .u8 64,.int .u8 1,.int .u16 (IntKind.u16.wrap p8),.int .u8 2,.int .u16 0,.int .u32 src,.int .u32 dst,.slice none 0 0,.slice Ax x.length cx]) aU.out rfl ?hr_ ?_);(case hr_=>(have m_:=(blk_cell aU.out 2).trans (rfl:_=some (.int .u8 pr:Value)));(have mf_:=blk_frozen aU.out 2);first|(go_simp;done)|(go_simp;rfl));intro w14 hs_ off_;have jJ:=Aside0.mk (Off.below off_ HB.out o6.out);have nM:=Aside0.mk (Off.blk off_ HXp.out aU.out (by decide));have Agd:=Aside0.mk (Off.blk off_ oL.out aU.out (by decide));have ql:=Aside0.mk (Off.R off_ HRx.out aU.out (by decide));have SY:=Aside0.mk (Off.R off_ TL.out aU.out (by decide));clear HB HXp oL HRx TL aU off_;have aU:=Aside0.mk hs_;clear hs_;have HB:=jJ;have HXp:=nM;have oL:=Agd;have HRx:=ql;have TL:=SY;clear jJ nM Agd ql SY))
    go_wp2_with (refine Kd.event_run rfl (rw_load rfl rfl oL.out Try.underlying101 rfl ou.out) ?_)
    refine (bI.calls ty 0 c 0 Aq cq q m me _ (Kd.R_reads' TL.out).2.2 HLq.out HM_.out).mono ?_;rintro e w15 ⟨v_,rfl,ho,hb⟩;have HRm:=Aside0.mk (Kd.R_lower ho (below_size HB.out));obtain ⟨Am,cm,rfl,_,_⟩:=Kd.R_reads ho;clear ho HM_ oL RJ TL HLq HRx;have hb_:=hb;replace HB:=mB HB hb_;replace HXp:=mX HXp hb_;replace aU:=mX aU hb_;clear hb_;clear hb
    go_wp2_with ((refine rw_set rfl rfl (i:=9) (v:= .slice Am m.length cm) (cs':= #[.int .u8 0,.int .u8 64,.int .u8 1,.int .u16 (IntKind.u16.wrap p8),.int .u8 2,.int .u16 0,.int .u32 src,.int .u32 dst,.slice none 0 0,.slice Am m.length cm]) aU.out rfl ?hr_ ?_);(case hr_=>(have m_:=(blk_cell aU.out 9).trans (rfl:_=some (.slice Ax x.length cx:Value)));(have mf_:=blk_frozen aU.out 9);first|(go_simp;done)|(go_simp;rfl));intro w16 hs_ off_;have jJ:=Aside0.mk (Off.below off_ HB.out o6.out);have nM:=Aside0.mk (Off.blk off_ HXp.out aU.out (by decide));have Age:=Aside0.mk (Off.R off_ HRm.out aU.out (by decide));clear HB HXp HRm aU off_;have aU:=Aside0.mk hs_;clear hs_;have HB:=jJ;have HXp:=nM;have HRm:=Age;clear jJ nM Age)
    go_meet
    case rel=>exact ⟨_,_,⟨HRm.out⟩,⟨aU.out⟩,⟨HXp.out⟩,⟨HB.out⟩⟩
   ·have ge1:(p7.tmod 5==4)=false:=iM ge
    have ge2:(p7.tmod 5 !=4)=true:=bne_iff_ne.2 ge
    have he:pr=pr2 /\ x=x2:=by
     have h:=HER.out;unfold seat_packet.er at h
     rw [aj ge] at h
     simp only [Option.some.injEq,Prod.mk.injEq] at h
     exact h
    obtain ⟨rfl,rfl⟩:=he;clear ge
    go_wp2
    go_meet
    case rel=>exact ⟨_,_,⟨HRx.out⟩,⟨aU.out⟩,⟨HXp.out⟩,⟨HB.out⟩⟩
  case rest=>
   obtain ⟨A,c_,ql,DF,nM,jJ⟩:=hcut;clear HRx aU HXp HB;have HRx:=ql;have aU:=DF;have HXp:=nM;have HB:=jJ;clear ql DF nM jJ;have Ap:=cz HXp.out 6 rfl
   go_upto_block 0 with (fail)
   clear Ap
   go_cut [] from 113 to 132 (fun w'=>∃ (Ao:Option Addr) (co:Nat),Aside0 (Kd.R (Kd.int .u8) 5 w' w.heap.size (fun _=>True) (.slice Ao op.length co) op) /\ Aside0 (Kd.R (Kd.int .u8) 5 w' w.heap.size (fun _=>True) (.slice A x2.length c_) x2) /\ Aside0 (w'.heap[gi]?=some (.cells #[.int .u8 0,.int .u8 ttl,.int .u8 pr3,.int .u16 (IntKind.u16.wrap p8),.int .u8 fl2,.int .u16 of2,.int .u32 src,.int .u32 dst,.slice Ao op.length co,.slice A x2.length c_] 73 (0,0))) /\ Aside0 (w'.heap[gp]?=some (.cells #[.int .u8 p0,.int .u8 p1,.int .u8 p2,.int .u8 p3,.int .u8 p4,.int .u8 p5,.int .u8 p6,.int .u8 p7,.int .u8 p8,.int .u8 p9] 25 (0,0))) /\ Aside0 (Below w.heap.size w w'))
   case first=>
    by_cases t0:p6.tmod 16=0
    ·have t01:(p6.tmod 16==0)=true:=jf t0
     have t02:(p6.tmod 16 !=0)=false:=by rw [bne,t01];rfl
     have e:=HSW.out;unfold seat_packet.sw at e
     rw [ah t0] at e
     simp only [Prod.mk.injEq] at e
     obtain ⟨rfl,rfl,rfl,rfl,rfl⟩:=e;clear t0;have Ap:=cz HXp.out 6 rfl
     go_wp2_with (((refine rw_set rfl rfl (i:=1) (v:= .int .u8 (p6.tdiv 16 % 256 % 3)) (cs':= #[.int .u8 0,.int .u8 (p6.tdiv 16 % 256 % 3),.int .u8 pr2,.int .u16 (IntKind.u16.wrap p8),.int .u8 2,.int .u16 0,.int .u32 src,.int .u32 dst,.slice none 0 0,.slice A x2.length c_]) aU.out rfl ?hr_ ?_);(case hr_=>(have m_:=(blk_cell aU.out 1).trans (rfl:_=some (.int .u8 64:Value)));(have mf_:=blk_frozen aU.out 1);first|(go_simp;done)|(go_simp;rfl));intro w21 hs_ off_;have jJ:=Aside0.mk (Off.below off_ HB.out o6.out);have nM:=Aside0.mk (Off.blk off_ HXp.out aU.out (by decide));have ql:=Aside0.mk (Off.R off_ HRx.out aU.out (by decide));clear HB HXp HRx aU off_;have aU:=Aside0.mk hs_;clear hs_;have HB:=jJ;have HXp:=nM;have HRx:=ql;clear jJ nM ql))
     go_meet
     case rel=>exact ⟨_,_,⟨Kd.bV _ _ _ _ _⟩,⟨HRx.out⟩,⟨aU.out⟩,⟨HXp.out⟩,⟨HB.out⟩⟩
    ·have t01:(p6.tmod 16==0)=false:=iM t0
     have t02:(p6.tmod 16 !=0)=true:=bne_iff_ne.2 t0
     by_cases t1:p6.tmod 16=1
     ·have t11:(p6.tmod 16==1)=true:=jf t1
      have t12:(p6.tmod 16 !=1)=false:=by rw [bne,t11];rfl
      have e:=HSW.out;unfold seat_packet.sw at e
      rw [aj t0] at e
      rw [ah t1] at e
      simp only [Prod.mk.injEq] at e
      obtain ⟨rfl,rfl,rfl,rfl,rfl⟩:=e;clear t0 t1
      go_wp2_with (((refine rw_set rfl rfl (i:=4) (v:= .int .u8 1) (cs':= #[.int .u8 0,.int .u8 64,.int .u8 pr2,.int .u16 (IntKind.u16.wrap p8),.int .u8 1,.int .u16 0,.int .u32 src,.int .u32 dst,.slice none 0 0,.slice A x2.length c_]) aU.out rfl ?hr_ ?_);(case hr_=>(have m_:=(blk_cell aU.out 4).trans (rfl:_=some (.int .u8 2:Value)));(have mf_:=blk_frozen aU.out 4);first|(go_simp;done)|(go_simp;rfl));intro w21 hs_ off_;have jJ:=Aside0.mk (Off.below off_ HB.out o6.out);have nM:=Aside0.mk (Off.blk off_ HXp.out aU.out (by decide));have ql:=Aside0.mk (Off.R off_ HRx.out aU.out (by decide));clear HB HXp HRx aU off_;have aU:=Aside0.mk hs_;clear hs_;have HB:=jJ;have HXp:=nM;have HRx:=ql;clear jJ nM ql))
      go_meet
      case rel=>exact ⟨_,_,⟨Kd.bV _ _ _ _ _⟩,⟨HRx.out⟩,⟨aU.out⟩,⟨HXp.out⟩,⟨HB.out⟩⟩
     ·have t11:(p6.tmod 16==1)=false:=iM t1
      have t12:(p6.tmod 16 !=1)=true:=bne_iff_ne.2 t1
      by_cases t2:p6.tmod 16=2
      ·have t21:(p6.tmod 16==2)=true:=jf t2
       have t22:(p6.tmod 16 !=2)=false:=by rw [bne,t21];rfl
       have e:=HSW.out;unfold seat_packet.sw at e
       rw [aj t0] at e
       rw [aj t1] at e
       rw [ah t2] at e
       simp only [Prod.mk.injEq] at e
       obtain ⟨rfl,rfl,rfl,rfl,rfl⟩:=e;clear t0 t1 t2
       go_wp2_with (((refine rw_set rfl rfl (i:=5) (v:= .int .u16 5) (cs':= #[.int .u8 0,.int .u8 64,.int .u8 pr2,.int .u16 (IntKind.u16.wrap p8),.int .u8 2,.int .u16 5,.int .u32 src,.int .u32 dst,.slice none 0 0,.slice A x2.length c_]) aU.out rfl ?hr_ ?_);(case hr_=>(have m_:=(blk_cell aU.out 5).trans (rfl:_=some (.int .u16 0:Value)));(have mf_:=blk_frozen aU.out 5);first|(go_simp;done)|(go_simp;rfl));intro w21 hs_ off_;have jJ:=Aside0.mk (Off.below off_ HB.out o6.out);have nM:=Aside0.mk (Off.blk off_ HXp.out aU.out (by decide));have ql:=Aside0.mk (Off.R off_ HRx.out aU.out (by decide));clear HB HXp HRx aU off_;have aU:=Aside0.mk hs_;clear hs_;have HB:=jJ;have HXp:=nM;have HRx:=ql;clear jJ nM ql))
       go_meet
       case rel=>exact ⟨_,_,⟨Kd.bV _ _ _ _ _⟩,⟨HRx.out⟩,⟨aU.out⟩,⟨HXp.out⟩,⟨HB.out⟩⟩
      ·have t21:(p6.tmod 16==2)=false:=iM t2
       have t22:(p6.tmod 16 !=2)=true:=bne_iff_ne.2 t2
       by_cases t3:p6.tmod 16=3
       ·have t31:(p6.tmod 16==3)=true:=jf t3
        have t32:(p6.tmod 16 !=3)=false:=by rw [bne,t31];rfl
        have e:=HSW.out;unfold seat_packet.sw at e
        rw [aj t0] at e
        rw [aj t1] at e
        rw [aj t2] at e
        rw [ah t3] at e
        simp only [Prod.mk.injEq] at e
        obtain ⟨rfl,rfl,rfl,rfl,rfl⟩:=e;clear t0 t1 t2 t3
        go_wp2_with (((refine rw_set rfl rfl (i:=2) (v:= .int .u8 47) (cs':= #[.int .u8 0,.int .u8 64,.int .u8 47,.int .u16 (IntKind.u16.wrap p8),.int .u8 2,.int .u16 0,.int .u32 src,.int .u32 dst,.slice none 0 0,.slice A x2.length c_]) aU.out rfl ?hr_ ?_);(case hr_=>(have m_:=(blk_cell aU.out 2).trans (rfl:_=some (.int .u8 pr2:Value)));(have mf_:=blk_frozen aU.out 2);first|(go_simp;done)|(go_simp;rfl));intro w21 hs_ off_;have jJ:=Aside0.mk (Off.below off_ HB.out o6.out);have nM:=Aside0.mk (Off.blk off_ HXp.out aU.out (by decide));have ql:=Aside0.mk (Off.R off_ HRx.out aU.out (by decide));clear HB HXp HRx aU off_;have aU:=Aside0.mk hs_;clear hs_;have HB:=jJ;have HXp:=nM;have HRx:=ql;clear jJ nM ql))
        go_meet
        case rel=>exact ⟨_,_,⟨Kd.bV _ _ _ _ _⟩,⟨HRx.out⟩,⟨aU.out⟩,⟨HXp.out⟩,⟨HB.out⟩⟩
       ·have t31:(p6.tmod 16==3)=false:=iM t3
        have t32:(p6.tmod 16 !=3)=true:=bne_iff_ne.2 t3
        by_cases t4:p6.tmod 16=4
        ·have t41:(p6.tmod 16==4)=true:=jf t4
         have t42:(p6.tmod 16 !=4)=false:=by rw [bne,t41];rfl
         have e:=HSW.out;unfold seat_packet.sw at e
         rw [aj t0] at e
         rw [aj t1] at e
         rw [aj t2] at e
         rw [aj t3] at e
         rw [ah t4] at e
         simp only [Prod.mk.injEq] at e
         obtain ⟨rfl,rfl,rfl,rfl,rfl⟩:=e;clear t0 t1 t2 t3 t4
         go_wp2_with (first|((with_reducible refine gate_dst (N:=131) rfl ?_);refine AcG .u8 w.heap.size 5 ?hg_ (N:=131) ?hd_ [1,1,1,1] ?hr_ HB.out (below_size HB.out) (by simp) ?_;(case hd_=>rfl);(case hg_=>rfl);(case hr_=>first|(go_simp;done)|(go_simp;rfl));intro Ao co w20 ho SH hg_;have bW:=Aside0.mk ho;have DF:=Aside0.mk (jK aU.out hg_ (fun h=>nomatch h));have nM:=Aside0.mk (jK HXp.out hg_ (fun h=>nomatch h));have ql:=Aside0.mk (Kd.CE HRx.out (fun k_ _ wF=>hg_.block k_ wF (fun h=>nomatch h)));have jJ:=Aside0.mk SH;clear ho SH hg_;clear aU HXp HRx HB;have aU:=DF;have HXp:=nM;have HRx:=ql;have HB:=jJ;clear DF nM ql jJ)|((refine rw_set rfl rfl (i:=8) (v:= .slice Ao 4 co) (cs':= #[.int .u8 0,.int .u8 64,.int .u8 pr2,.int .u16 (IntKind.u16.wrap p8),.int .u8 2,.int .u16 0,.int .u32 src,.int .u32 dst,.slice Ao 4 co,.slice A x2.length c_]) aU.out rfl ?hr_ ?_);(case hr_=>(have m_:=(blk_cell aU.out 8).trans (rfl:_=some (.slice none 0 0:Value)));(have mf_:=blk_frozen aU.out 8);first|(go_simp;done)|(go_simp;rfl));intro w22 hs_ off_;have jJ:=Aside0.mk (Off.below off_ HB.out o6.out);have nM:=Aside0.mk (Off.blk off_ HXp.out aU.out (by decide));have ql:=Aside0.mk (Off.R off_ HRx.out aU.out (by decide));have Agf:=Aside0.mk (Off.R off_ bW.out aU.out (by decide));clear HB HXp HRx bW aU off_;have aU:=Aside0.mk hs_;clear hs_;have HB:=jJ;have HXp:=nM;have HRx:=ql;have bW:=Agf;clear jJ nM ql Agf))
         go_meet
         case rel=>exact ⟨_,_,⟨bW.out⟩,⟨HRx.out⟩,⟨aU.out⟩,⟨HXp.out⟩,⟨HB.out⟩⟩
        ·have t41:(p6.tmod 16==4)=false:=iM t4
         have t42:(p6.tmod 16 !=4)=true:=bne_iff_ne.2 t4;have e:=HSW.out;unfold seat_packet.sw at e
         rw [aj t0] at e
         rw [aj t1] at e
         rw [aj t2] at e
         rw [aj t3] at e
         rw [aj t4] at e
         simp only [Prod.mk.injEq] at e
         obtain ⟨rfl,rfl,rfl,rfl,rfl⟩:=e;clear t0 t1 t2 t3 t4
         go_wp2_with (fail)
         go_meet
         case rel=>exact ⟨_,_,⟨Kd.bV _ _ _ _ _⟩,⟨HRx.out⟩,⟨aU.out⟩,⟨HXp.out⟩,⟨HB.out⟩⟩
   case rest=>
    obtain ⟨Ao,co,bW,ql,DF,nM,jJ⟩:=hcut;clear HRx aU HXp HB;have HRx:=ql;have aU:=DF;have HXp:=nM;have HB:=jJ;clear ql DF nM jJ
    go_wp2_with (refine Kd.event_run rfl (rw_load rfl rfl aU.out Try.underlying73 rfl HI73.out) ?_)
    refine (aA.calls k 0 ttl pr3 (IntKind.u16.wrap p8) fl2 of2 src dst Ao co op A c_ x2 b be _ (Kd.R_reads' bW.out).2.2 (Kd.R_reads' bW.out).2.1 (Kd.R_reads' HRx.out).2.2 (Kd.R_reads' HRx.out).2.1 HBB.out).mono ?_;rintro e w24 ⟨v_,rfl,ho,hb⟩;have HRb:=Aside0.mk (Kd.R_lower ho (below_size HB.out));obtain ⟨Ab,cb,rfl,_,_⟩:=Kd.R_reads ho;clear ho HBB bW HRx aU o6;have hb_:=hb;replace HB:=mB HB hb_;replace HXp:=mX HXp hb_;clear hb_;clear hb
    (try dsimp only)
    have F8:=cz HXp.out 9 rfl
    by_cases g7:p9.tmod 8=7
    ·have g71:(p9.tmod 8==7)=true:=jf g7
     have g72:(p9.tmod 8 !=7)=false:=by rw [bne,g71];rfl
     by_cases hl:0<b.length
     ·have clc:decide (0<b.length)=true:=bJ (by omega)
      have cla:decide ((0:Int)<(b.length:Int))=true:=bJ (by omega);have clb:((0:Int)<(b.length:Int))=True:=eq_true (by omega);obtain ⟨gb,cap,hv,hgb,_,_⟩:=Kd.R_form HRb.out hl
      injection hv with h1 h2 h3
      subst h1 h3;obtain ⟨j,hj⟩:∃ j:Nat,(j:Int)=Int.tmod p9 (b.length:Int):=⟨(Int.tmod p9 (b.length:Int)).toNat,Int.toNat_of_nonneg (Int.tmod_nonneg _ HN.out.2.1)⟩
      have hjn:j<b.length:=by
       have h5:Int.tmod p9 (b.length:Int)<(b.length:Int):=Int.tmod_lt_of_pos _ (by omega)
       omega
      obtain ⟨hcb,hfb⟩:=Kd.YN (0:Int) HRb.out (j:Int) (by omega) (by omega);have HCB:Aside0 (w24.cell? ⟨gb,j,none⟩=some (.int .u8 (rd b (j:Int)))):=⟨hcb⟩
      have HFB:Aside0 (w24.frozen? ⟨gb,j,none⟩=false):=⟨hfb⟩
      have HGB:=Aside0.mk hgb;have HJ7:Aside0 (Value.int .i64 (Int.tmod p9 (b.length:Int))= .int .i64 (j:Int)):=⟨by rw [hj]⟩
      have HZ7:Aside0 (¬ b=[]):=⟨fun e=>by rw [e] at hl;exact Nat.lt_irrefl 0 hl⟩
      have HS8:Aside0 (0<=p8.tmod 8 /\ p8.tmod 8<=8):=⟨⟨Int.tmod_nonneg _ HN.out.1.1,by have:=Int.tmod_lt_of_pos p8 (show (0:Int)<8 by decide);omega⟩⟩
      have HJ9:Aside0 (Int.tmod p9 (b.length:Int)=(j:Int)):=⟨hj.symm⟩
      have HWN:Aside0 (wrap64 p9=p9):=⟨by have:=HN.out.2;unfold wrap64;omega⟩
      have HJ8:Aside0 (((j:Int)<(b.length:Int))=True):=⟨eq_true (by omega)⟩
      have HSP:Aside0 (seat_packet.sp p8 p9 b=b.set j (Go.bits .xor .u8 (rd b (j:Int)) (IntKind.u8.wrap (2 ^ (p8.tmod 8).toNat)))):=⟨by unfold seat_packet.sp;rw [ah g7,ah hl,<- hj,Int.toNat_natCast]⟩
      clear hcb hfb hgb hj hjn h2 hl g7
      go_upto_region 28 with (fail)
      clear g71 g72 cla clb clc F8;refine start_ (n:=16) (S:=fun w'=>w'.cell? ⟨gp,9,none⟩=some (.int .u8 p9) /\ w'.cell? ⟨gp,8,none⟩=some (.int .u8 p8) /\ w'.cell? ⟨gb,j,none⟩=some (.int .u8 (rd b (j:Int)))) (ds:=[15]) #[false,false,false,false,false,false,false,false,false,false,false,false,false,false,false,false] (by kernel_rfl) rfl rfl ⟨(blk_cell HXp.out 9).trans rfl,(blk_cell HXp.out 8).trans rfl,HCB.out⟩ (fun hHeld=> ?_);refine with_tabW seat_packet.R28.tab seat_packet.R28.bits (fun HT_ HW_=> ?_);have hb:=below_drew1 (Below.refl w24.heap.size w24);have Agg:=Aside0.mk (show w24.drew.cell? ⟨gb,j,none⟩=some (.int .u8 (rd b (j:Int))) from HCB.out);have Agh:=Aside0.mk (show w24.drew.frozen? ⟨gb,j,none⟩=false from HFB.out);clear HCB HFB;have HCB:=Agg;have HFB:=Agh;clear Agg Agh;have hb_:=hb
      replace HB:=mB HB hb_;replace HXp:=mX HXp hb_;replace HRb:=mR HRb hb_;clear hb_;clear hb;generalize w24.drew=w24 at HB HXp HRb HCB HFB hHeld|-
      refine pz 0 147 HT_ ?_;refine pz 1 148 HT_ ?_;refine pz 4 151 HT_ ?_;refine pz 5 152 HT_ ?_;refine pz 9 156 HT_ ?_;refine tz 2 149 HT_ HW_ hHeld ?_;refine pz 3 150 HT_ ?_;refine pure_ (i:=6) (N:=some 153) (v:= ?_) (a':= ?_) #[true,true,true,true,true,true,true,false,false,true,false,false,false,false,false,false] rfl rfl (any_of HT_.out (by kernel_rfl)) (fun _ _ _ h=>h) (Or.inl ⟨by rfl, ?_⟩) ?_ ?_
      rotate_left
      ·intro w'
       have z7:=HZ7.out;have z8:=HWN.out
       go_simp
       first|exact HJ7.out|exact HJ9.out
      rotate_left
      ·simp only [vF]
       rfl
      refine pure_ (i:=7) (N:=some 154) (v:= ?_) (a':= ?_) #[true,true,true,true,true,true,true,true,false,true,false,false,false,false,false,false] rfl rfl (any_of HT_.out (by kernel_rfl)) (fun _ _ _ h=>h) (Or.inl ⟨by rfl, ?_⟩) ?_ ?_
      rotate_left
      ·intro w'
       have z7:=HJ8.out
       go_simp
       with_reducible rfl
      rotate_left
      ·simp only [vF]
       rfl
      refine tz 8 155 HT_ HW_ hHeld ?_;refine tz 10 157 HT_ HW_ hHeld ?_;refine pz 11 158 HT_ ?_;refine pure_ (i:=12) (N:=some 159) (v:= ?_) (a':= ?_) #[true,true,true,true,true,true,true,true,true,true,true,true,true,false,false,false] rfl rfl (any_of HT_.out (by kernel_rfl)) (fun _ _ _ h=>h) (Or.inl ⟨by rfl, ?_⟩) ?_ ?_
      rotate_left
      ·intro w'
       have z1:=HS8.out.1;have z2:=HS8.out.2
       go_simp
       with_reducible rfl
      rotate_left
      ·simp only [vF]
       rfl
      refine pz 13 160 HT_ ?_;refine pure_ (i:=14) (N:=some 161) (v:= ?_) (a':= ?_) #[true,true,true,true,true,true,true,true,true,true,true,true,true,true,true,false] rfl rfl (any_of HT_.out (by kernel_rfl)) (fun _ _ _ h=>h) (Or.inl ⟨by rfl, ?_⟩) ?_ ?_
      rotate_left
      ·intro w'
       have z7:=HJ8.out
       go_simp
       with_reducible rfl
      rotate_left
      ·simp only [vF]
       rfl
      refine Ak7 (i:=15) (N:=none) #[true,true,true,true,true,true,true,true,true,true,true,true,true,true,true,true] rfl rfl (one_of HT_.out (by kernel_rfl)) (by decide) (fun K hK=> ?_);have s0:=HCB.out;have Uf:=HFB.out;refine CJ (w1:=w24.setCell ⟨gb,j,none⟩ (.int .u8 (Go.bits .xor .u8 (rd b (j:Int)) (IntKind.u8.wrap (2 ^ (p8.tmod 8).toNat))))) (by rfl) rfl ?_ ?_
      ·go_simp
      clear s0 Uf;refine hK.out _ _ ?_;clear hK K;refine dz HT_ ?_;clear HT_ HW_ hHeld;have HB2:=Aside0.mk (Below.setCell (p:=⟨gb,j,none⟩) HB.out HGB.out (.int .u8 (Go.bits .xor .u8 (rd b (j:Int)) (IntKind.u8.wrap (2 ^ (p8.tmod 8).toNat)))));have HR2:=Aside0.mk (Kd.Oj HRb.out (j:Int) (Go.bits .xor .u8 (rd b (j:Int)) (IntKind.u8.wrap (2 ^ (p8.tmod 8).toNat))));clear HB HRb HXp HCB HFB
      (try dsimp only)
      go_wp2
      (try simp only [Exit.inBlock,Exit.then])
      go_ret
      rw [HSP.out];exact ⟨_,rfl,HR2.out,HB2.out⟩
     ·have clc:decide (0<b.length)=false:=jC (by omega)
      have cla:decide ((0:Int)<(b.length:Int))=false:=jC (by omega);have clb:((0:Int)<(b.length:Int))=False:=eq_false (by omega)
      (try dsimp only)
      go_wp2
      (try simp only [Exit.inBlock,Exit.then])
      go_ret
      exact ⟨_,rfl,(by unfold seat_packet.sp;rw [ah g7,aj hl];exact HRb.out),HB.out⟩
    ·have g71:(p9.tmod 8==7)=false:=iM g7
     have g72:(p9.tmod 8 !=7)=true:=bne_iff_ne.2 g7
     (try dsimp only)
     go_wp2
     (try simp only [Exit.inBlock,Exit.then])
     go_ret
     exact ⟨_,rfl,(by unfold seat_packet.sp;rw [aj g7];exact HRb.out),HB.out⟩
def X3:List Int:=[69,0,0,28,0,0,64,0,64,1,32,209,10,0,0,1,8,8,8,8,8,0,244,23,3,232,0,0]
def k8C:List Int:=[69,0,0,28,0,0,64,0,64,1,58,223,0,0,0,1,0,0,0,2,8,0,247,246,0,9,0,0]
def k8D:List Int:=[69,0,0,28,0,0,64,0,63,1,33,209,10,0,0,1,8,8,8,8,8,0,244,23,3,232,0,0]
theorem AjK:seat_packet.f 100 2 0 0 0 0 0 9 0 0 0 0 0=some X3:=by decide+kernel
def k8r:LK:=⟨0,64,1,0,2,0,167772161,134744072,[],[8,0,244,23,3,232,0,0],.Gw 8 0 62487 65536000 [],1000,1000,0,[],0⟩
def k8s:LK:=⟨0,64,1,0,2,0,1,2,[],[8,0,247,246,0,9,0,0],.Gw 8 0 63478 589824 [],9,9,0,[],0⟩
theorem AjL:Px 100 k8r 1 9 2 9 (some [8,0,247,246,0,9,0,0])=some (k8C,0):=by decide+kernel
theorem AoY:pointed.f 100 1 9 2 9 (.Gw 8 0 62487 65536000 [])=some [8,0,247,246,0,9,0,0]:=by decide+kernel
theorem AjM:xm.f 100 X3=some (k8D,0):=by decide+kernel
theorem AoZ:dL.f 100 X3=some (0,64,1,0,2,0,167772161,134744072,[],[8,0,244,23,3,232,0,0],0):=by kernel_rfl
theorem AjN:dL.f 100 k8C=some (0,64,1,0,2,0,1,2,[],[8,0,247,246,0,9,0,0],0):=by kernel_rfl
theorem AjO:dL.f 100 []=some (0,0,0,0,0,0,0,0,[],[],20):=by kernel_rfl
theorem Ao0:xh 100 0 64 0 2 0 167772161 134744072 [] [8,0,244,23,3,232,0,0]=some k8r:=by kernel_rfl
theorem AjP:xh 100 0 64 0 2 0 1 2 [] [8,0,247,246,0,9,0,0]=some k8s:=by kernel_rfl
theorem Agi (A:Option Addr) (c:Nat) (hL:X3.length<=c) (w:World) (hC:Kd.C (Kd.int .u8) w A X3.length X3):Calls Try.prog 69 #[.slice A X3.length c] w fun e w'=>k8r.Post w.heap.size w e w':=look.lk_icmp 100 A c X3 0 64 0 2 0 167772161 134744072 [] [8,0,244,23,3,232,0,0] k8r w hC hL AoZ Ao0
theorem AjQ (A:Option Addr) (c:Nat) (hL:k8C.length<=c) (w:World) (hC:Kd.C (Kd.int .u8) w A k8C.length k8C):Calls Try.prog 69 #[.slice A k8C.length c] w fun e w'=>k8s.Post w.heap.size w e w':=look.lk_icmp 100 A c k8C 0 64 0 2 0 1 2 [] [8,0,247,246,0,9,0,0] k8s w hC hL AjN AjP
theorem AjR (c:Nat) (w:World) (hC:Kd.C (Kd.int .u8) w none ([]:List Int).length []):Calls Try.prog 69 #[.slice none ([]:List Int).length c] w fun e w'=>(LK.err 20).Post w.heap.size w e w':=look.AaF 100 none c [] 0 0 0 0 0 0 0 0 [] [] 20 w hC (Nat.zero_le _) AjO (by decide)
theorem Ao3 (y:List Int) (hy:some [8,0,247,246,0,9,0,0]=some y) (w:World) (vx:Value) (base:Nat) (hv:k8r.x.V w base vx):Calls Try.prog 70 #[vx,.agg #[.int .u32 1,.int .u16 9],.agg #[.int .u32 2,.int .u16 9]] w fun e w'=>∃ vz:Value,e= .returned vz /\ Kd.R (Kd.int .u8) 5 w' w.heap.size (fun _=>True) vz y /\ Below w.heap.size w w':=by
 obtain rfl:=eF hy;obtain ⟨v4,rfl,h4⟩:=hv;exact pointed.Ade 100 1 9 2 9 8 0 62487 65536000 [] v4 _ w h4 AoY
theorem load_mid_ {P:Program} {o:Oper} {a:Act} {w:World} {b k:Nat} {ty:TypeId} {p:Operand} {cs:List Value} {d:TypeDesc} (ho:o.op= .load ty p) (hp:a.eval p= .pointer (some ⟨b,k,none⟩)) (hc:w.rangeAt b k cs) (hu:P.underlying ty=some d) (hd:d.isRow=true) (hi:(P.info? ty).map (·.size)=some cs.length):
  (execOp a.eval o).run P w= .ok (.value (.agg cs.toArray)) w:=by
 have h:=run_loadAt_mid (P:=P) w b k ty cs d hc hu hd hi;unfold execOp;simp only [ho,hp]
 simp [h,Sem.run_bind,Result.andThen]
def known8.R7.T:Bool×List (List Nat×List Nat):=(true,[([],[]),([],[]),([0,1],[0,1]),([],[]),([2,3],[2,3]),([],[]),([4,5],[4,5]),([6],[6]),([7],[7]),([8],[8]),([9,8],[8,9]),([8,10],[8,10]),([11,8],[11]),([12],[12]),([13,12],[12,13]),([14,12],[12,14]),([15,12],[12,15]),([12,16],[12,16]),([17,12],[17]),([18],[18]),([19,18],[18,19]),([18],[18]),([20,21,18],[18,20,21]),([18,22],[18,22]),([23,18],[23]),([24],[24]),([25,24],[24,25]),([24],[24]),([26,27,24],[24,26,27]),([24,28],[24,28]),([29,24],[29]),([30],[30]),([31,30],[30,31]),([30],[30]),([33,30],[30,33]),([32,34,30],[30,32,34]),([30,35],[30,35]),([36,30],[36]),([37],[37]),([38,37],[37,38]),([39,37],[37,39]),([37],[37]),([41,37],[37,41]),([42,37],[37,42]),([43,37],[37,43]),([40,44,37],[37,40,44]),([37,45],[37,45]),([46,37,0,1,2,3,4,5,6,7,8,9,10,11,12,13,14,15,16,17,18,19,20,21,22,23,24,25,26,27,28,29,30,31,32,33,34,35,36,37,38,39,40,41,42,43,44,45,46],[46])])
theorem known8.R7.tab:rtab .any (opsOf Try.f30 7)=known8.R7.T:=by kernel_rfl
theorem known8.R7.bits:waitsOk known8.R7.T.2 [0,0,3,0,15,0,63,127,255,511,1023,2047,4095,8191,16383,32767,65535,131071,262143,524287,1048575,524287,4194303,8388607,16777215,33554431,67108863,33554431,268435455,536870911,1073741823,2147483647,4294967295,2147483647,10737418239,34359738367,68719476735,137438953471,274877906943,549755813887,1099511627775,274877906943,2473901162495,6871947673599,15668040695807,35184372088831,70368744177663,140737488355327]=true:=by kernel_rfl
theorem known8.calls (w:World):Calls Try.prog 30 #[] w fun e w'=>e= .returned (.bool true) /\ Below w.heap.size w w':=by
 have hu65:=Try.underlying65;have hu73:=Try.underlying73;have hu76:=Try.underlying76;have HB:=jy w;have HI65:Aside0 ((Try.prog.info? 65).map (·.size)=some 2):=⟨by kernel_rfl⟩
 have HI73:Aside0 ((Try.prog.info? 73).map (·.size)=some 10):=⟨by kernel_rfl⟩
 have HI76:Aside0 ((Try.prog.info? 76).map (·.size)=some 7):=⟨by kernel_rfl⟩
 go_enter Try.func30,Try.ntmps30
 go_wp2_with fail
 refine (seat_packet.calls 100 2 0 0 0 0 0 9 0 0 0 0 0 X3 _ ⟨⟨by decide,by decide⟩,by decide,by decide⟩ AjK).mono ?_;rintro ev w1 ⟨vb,rfl,ho,hb⟩;have HRb:=Aside0.mk (Kd.R_lower ho (below_size HB.out));clear ho;have hb_:=hb;replace HB:=mB HB hb_;clear hb_;clear hb;obtain ⟨gb,cb,rfl,hgb,_,_⟩:=Kd.R_form HRb.out (by decide);have HGb:=Aside0.mk hgb;clear hgb
 (try dsimp only)
 go_wp2_with fail
 refine (rewrite_Look.via (some ⟨gb,0,none⟩) cb X3 _ _ (Kd.R_reads' HRb.out).2.2 (Kd.R_reads' HRb.out).2.1 (Agi _ _ (Kd.R_reads' HRb.out).2.1)).mono ?_;rintro ev w2 hpost;obtain ⟨v8,v9,vi,rfl,ho8,ho9,hi,hb⟩:=hpost;obtain ⟨A8,c8,rfl,_,_⟩:=Kd.R_reads ho8;obtain ⟨A9,c9,rfl,_,_⟩:=Kd.R_reads ho9;obtain ⟨Aia,cia,rfl,_,_⟩:=Kd.R_reads hi;clear ho8 ho9 hi;have hb_:=hb;replace HB:=mB HB hb_;replace HRb:=mR HRb hb_;clear hb_;clear hb;dsimp only [LK.err,k8r,k8s]
 go_upto_region 3 with (first|((with_reducible refine gate_dst (N:=2) rfl ?_);refine box_event ?hg_ (N:=2) ?hd_ (cs:= #[.int .u8 0,.int .u8 0,.int .u8 0,.int .u16 0,.int .u8 0,.int .u16 0,.int .u32 0,.int .u32 0,.slice none 0 0,.slice none 0 0]) (t:=73) ?hr_ ?_;(case hd_=>rfl);(case hg_=>rfl);(case hr_=>first|(go_simp;done)|(go_simp;rfl));intro g1 hgg_ w3 hbox_ hbb_;have Agj:=Aside0.mk (show w.heap.size<=g1 by rw [hgg_];exact below_size HB.out);have PS:=Aside0.mk hbox_;have hb_:=hbb_;replace HB:=mB HB hb_;replace HRb:=mR HRb hb_;clear hb_;clear hgg_ hbox_ hbb_)|((with_reducible refine gate_dst (N:=3) rfl ?_);refine box_event ?hg_ (N:=3) ?hd_ (cs:= #[.int .u8 0,.int .u32 0,.int .u16 0,.int .u32 0,.int .u16 0,.int .u8 0,.slice none 0 0]) (t:=76) ?hr_ ?_;(case hd_=>rfl);(case hg_=>rfl);(case hr_=>first|(go_simp;done)|(go_simp;rfl));intro g2 hgg_ w4 hbox_ hbb_;have Ao4:=Aside0.mk (show w.heap.size<=g2 by rw [hgg_];exact below_size HB.out);have uz:=Aside0.mk hbox_;have hb_:=hbb_;replace HB:=mB HB hb_;replace HRb:=mR HRb hb_;replace PS:=mX PS hb_;clear hb_;clear hgg_ hbox_ hbb_)|((refine rw_putrow rfl rfl rfl rfl rfl PS.out HI73.out rfl (by simp [Value.oneCell']) ?_);intro w5 hs_ off_;replace HRb:=oR off_ HRb PS (by decide);replace uz:=oX off_ uz PS (by decide);replace HB:=oB off_ HB Agj;clear off_;replace PS:=Aside0.mk hs_;clear hs_)|((refine rw_putrow rfl rfl rfl rfl rfl uz.out HI76.out rfl (by simp [Value.oneCell']) ?_);intro w6 hs_ off_;replace HRb:=oR off_ HRb uz (by decide);replace PS:=oX off_ PS uz (by decide);replace HB:=oB off_ HB Ao4;clear off_;replace uz:=Aside0.mk hs_;clear hs_))
 clear PS;clear Agj
 (try dsimp only)
 go_wp2_with fail
 refine (KT.via 100 (some ⟨gb,0,none⟩) cb X3 k8r 1 9 2 9 _ k8C 0 _ (Kd.R_reads' HRb.out).2.2 (Kd.R_reads' HRb.out).2.1 (Agi _ _ (Kd.R_reads' HRb.out).2.1) Ao3 AjL).mono ?_;rintro ev w7 ⟨vc,rfl,ho,hb⟩;have UY:=Aside0.mk (Kd.R_lower ho (below_size HB.out));clear ho;obtain ⟨Ac,cc,rfl,_,_⟩:=Kd.R_reads UY.out;have hb_:=hb;replace HB:=mB HB hb_;replace HRb:=mR HRb hb_;replace uz:=mX uz hb_;clear hb_;clear hb
 (try dsimp only)
 go_wp2_with fail
 refine (rewrite_Look.via Ac cc k8C _ _ (Kd.R_reads' UY.out).2.2 (Kd.R_reads' UY.out).2.1 (AjQ _ _ (Kd.R_reads' UY.out).2.1)).mono ?_;rintro ev w8 hpost;obtain ⟨v8,v9,vi,rfl,ho8,ho9,hi,hb⟩:=hpost;obtain ⟨A8,c8,rfl,_,_⟩:=Kd.R_reads ho8;obtain ⟨A9,c9,rfl,_,_⟩:=Kd.R_reads ho9;obtain ⟨Aib,cib,rfl,_,_⟩:=Kd.R_reads hi;clear ho8 ho9 hi;have hb_:=hb;replace HB:=mB HB hb_;replace HRb:=mR HRb hb_;replace uz:=mX uz hb_;replace UY:=mR UY hb_;clear hb_;clear hb;dsimp only [LK.err,k8r,k8s]
 go_upto_region 5 with (first|((with_reducible refine gate_dst (N:=7) rfl ?_);refine box_event ?hg_ (N:=7) ?hd_ (cs:= #[.int .u8 0,.int .u8 0,.int .u8 0,.int .u16 0,.int .u8 0,.int .u16 0,.int .u32 0,.int .u32 0,.slice none 0 0,.slice none 0 0]) (t:=73) ?hr_ ?_;(case hd_=>rfl);(case hg_=>rfl);(case hr_=>first|(go_simp;done)|(go_simp;rfl));intro g3 hgg_ w9 hbox_ hbb_;have Agk:=Aside0.mk (show w.heap.size<=g3 by rw [hgg_];exact below_size HB.out);have Lt:=Aside0.mk hbox_;have hb_:=hbb_;replace HB:=mB HB hb_;replace HRb:=mR HRb hb_;replace uz:=mX uz hb_;replace UY:=mR UY hb_;clear hb_;clear hgg_ hbox_ hbb_)|((with_reducible refine gate_dst (N:=8) rfl ?_);refine box_event ?hg_ (N:=8) ?hd_ (cs:= #[.int .u8 0,.int .u32 0,.int .u16 0,.int .u32 0,.int .u16 0,.int .u8 0,.slice none 0 0]) (t:=76) ?hr_ ?_;(case hd_=>rfl);(case hg_=>rfl);(case hr_=>first|(go_simp;done)|(go_simp;rfl));intro g4 hgg_ w10 hbox_ hbb_;have Ao6:=Aside0.mk (show w.heap.size<=g4 by rw [hgg_];exact below_size HB.out);have zY:=Aside0.mk hbox_;have PT:Aside0 (g2≠g4):=⟨by rw [hgg_];exact (blk_less uz).out⟩;have hb_:=hbb_;replace HB:=mB HB hb_;replace HRb:=mR HRb hb_;replace uz:=mX uz hb_;replace UY:=mR UY hb_;replace Lt:=mX Lt hb_;clear hb_;clear hgg_ hbox_ hbb_)|((refine rw_putrow rfl rfl rfl rfl rfl Lt.out HI73.out rfl (by simp [Value.oneCell']) ?_);intro w11 hs_ off_;replace HRb:=oR off_ HRb Lt (by decide);replace uz:=oX off_ uz Lt (by decide);replace UY:=oR off_ UY Lt (by decide);replace zY:=oX off_ zY Lt (by decide);replace HB:=oB off_ HB Agk;clear off_;replace Lt:=Aside0.mk hs_;clear hs_)|((refine rw_putrow rfl rfl rfl rfl rfl zY.out HI76.out rfl (by simp [Value.oneCell']) ?_);intro w12 hs_ off_;replace HRb:=oR off_ HRb zY (by decide);replace uz:=oN off_ uz PT;replace UY:=oR off_ UY zY (by decide);replace Lt:=oX off_ Lt zY (by decide);replace HB:=oB off_ HB Ao6;clear off_;replace zY:=Aside0.mk hs_;clear hs_))
 clear Lt UY;clear Agk
 (try dsimp only)
 go_wp2_with fail
 refine (rewrite_Look.via none 0 [] _ _ (Kd.JM _ _) (Nat.le_refl _) (AjR _)).mono ?_;rintro ev w13 hpost;obtain ⟨v8,v9,vi,rfl,ho8,ho9,hi,hb⟩:=hpost;obtain ⟨A8,c8,rfl,_,_⟩:=Kd.R_reads ho8;obtain ⟨A9,c9,rfl,_,_⟩:=Kd.R_reads ho9;obtain ⟨Aic,cic,rfl,_,_⟩:=Kd.R_reads hi;clear ho8 ho9 hi;have hb_:=hb;replace HB:=mB HB hb_;replace HRb:=mR HRb hb_;replace uz:=mX uz hb_;replace zY:=mX zY hb_;clear hb_;clear hb;dsimp only [LK.err,k8r,k8s]
 go_upto_region 6 with (first|((with_reducible refine gate_dst (N:=10) rfl ?_);refine box_event ?hg_ (N:=10) ?hd_ (cs:= #[.int .u8 0,.int .u8 0,.int .u8 0,.int .u16 0,.int .u8 0,.int .u16 0,.int .u32 0,.int .u32 0,.slice none 0 0,.slice none 0 0]) (t:=73) ?hr_ ?_;(case hd_=>rfl);(case hg_=>rfl);(case hr_=>first|(go_simp;done)|(go_simp;rfl));intro g5 hgg_ w14 hbox_ hbb_;have Agl:=Aside0.mk (show w.heap.size<=g5 by rw [hgg_];exact below_size HB.out);have Lu:=Aside0.mk hbox_;have hb_:=hbb_;replace HB:=mB HB hb_;replace HRb:=mR HRb hb_;replace uz:=mX uz hb_;replace zY:=mX zY hb_;clear hb_;clear hgg_ hbox_ hbb_)|((with_reducible refine gate_dst (N:=11) rfl ?_);refine box_event ?hg_ (N:=11) ?hd_ (cs:= #[.int .u8 0,.int .u32 0,.int .u16 0,.int .u32 0,.int .u16 0,.int .u8 0,.slice none 0 0]) (t:=76) ?hr_ ?_;(case hd_=>rfl);(case hg_=>rfl);(case hr_=>first|(go_simp;done)|(go_simp;rfl));intro g6 hgg_ w15 hbox_ hbb_;have Agm:=Aside0.mk (show w.heap.size<=g6 by rw [hgg_];exact below_size HB.out);have UZ:=Aside0.mk hbox_;have PU:Aside0 (g2≠g6):=⟨by rw [hgg_];exact (blk_less uz).out⟩;have PV:Aside0 (g4≠g6):=⟨by rw [hgg_];exact (blk_less zY).out⟩;have hb_:=hbb_;replace HB:=mB HB hb_;replace HRb:=mR HRb hb_;replace uz:=mX uz hb_;replace zY:=mX zY hb_;replace Lu:=mX Lu hb_;clear hb_;clear hgg_ hbox_ hbb_)|((refine rw_putrow rfl rfl rfl rfl rfl Lu.out HI73.out rfl (by simp [Value.oneCell']) ?_);intro w16 hs_ off_;replace HRb:=oR off_ HRb Lu (by decide);replace uz:=oX off_ uz Lu (by decide);replace zY:=oX off_ zY Lu (by decide);replace UZ:=oX off_ UZ Lu (by decide);replace HB:=oB off_ HB Agl;clear off_;replace Lu:=Aside0.mk hs_;clear hs_)|((refine rw_putrow rfl rfl rfl rfl rfl UZ.out HI76.out rfl (by simp [Value.oneCell']) ?_);intro w17 hs_ off_;replace HRb:=oR off_ HRb UZ (by decide);replace uz:=oN off_ uz PU;replace zY:=oN off_ zY PV;replace Lu:=oX off_ Lu UZ (by decide);replace HB:=oB off_ HB Agm;clear off_;replace UZ:=Aside0.mk hs_;clear hs_))
 clear Lu UZ;clear Agl Agm
 (try dsimp only)
 go_wp2_with fail
 refine (xm.calls 100 (some ⟨gb,0,none⟩) cb X3 k8D 0 _ (Kd.R_reads' HRb.out).2.2 (Kd.R_reads' HRb.out).2.1 AjM).mono ?_;rintro ev w18 ⟨vd,rfl,ho,hb⟩;have HRd:=Aside0.mk (Kd.R_lower ho (below_size HB.out));clear ho;have hb_:=hb;replace HB:=mB HB hb_;replace HRb:=mR HRb hb_;replace uz:=mX uz hb_;replace zY:=mX zY hb_;clear hb_;clear hb;obtain ⟨gd,cd,rfl,hgd,_,_⟩:=Kd.R_form HRd.out (by decide);have HGd:=Aside0.mk hgd;clear hgd
 (try dsimp only)
 go_upto_region 7 with (fail)
 have HSb:Aside0 (w18.cell? ⟨gb,8,none⟩=some (.int .u8 64)):=⟨(Kd.qZ (0:Int) HRb.out ((8:Nat):Int) (by decide) (by decide)).1⟩
 have HSd:Aside0 (w18.cell? ⟨gd,8,none⟩=some (.int .u8 63)):=⟨(Kd.qZ (0:Int) HRd.out ((8:Nat):Int) (by decide) (by decide)).1⟩
 refine start_ (n:=48) (S:=fun w'=>w'.heap[g2]?=some (.cells #[.int .u8 1,.int .u32 167772161,.int .u16 1000,.int .u32 134744072,.int .u16 1000,.int .u8 0,.slice Aia ([]:List S65).length cia] 76 (0,0)) /\ w'.heap[g4]?=some (.cells #[.int .u8 1,.int .u32 1,.int .u16 9,.int .u32 2,.int .u16 9,.int .u8 0,.slice Aib ([]:List S65).length cib] 76 (0,0)) /\ w'.cell? ⟨gb,8,none⟩=some (.int .u8 64) /\ w'.cell? ⟨gd,8,none⟩=some (.int .u8 63)) (ds:=[]) #[false,false,false,false,false,false,false,false,false,false,false,false,false,false,false,false,false,false,false,false,false,false,false,false,false,false,false,false,false,false,false,false,false,false,false,false,false,false,false,false,false,false,false,false,false,false,false,false] (by kernel_rfl) rfl rfl ⟨uz.out,zY.out,HSb.out,HSd.out⟩ (fun hHeld=> ?_)
 refine with_tabW known8.R7.tab known8.R7.bits (fun HT_ HW_=> ?_);have hb_:=below_drew1 (Below.refl w18.heap.size w18);have jJ:=Aside0.mk (ag HB.out hb_);clear HB hb_;have HB:=jJ;clear jJ;refine pz 0 46 HT_ ?_;refine pz 1 47 HT_ ?_;refine pv 2 48 (.int .i64 0) HT_ ?_ ?_
 ·intro w'
  first|(go_simp;done)|(go_simp;rfl)|(go_simp;decide)
 refine nz 48 ?_;refine pz 3 49 HT_ ?_;refine pv 4 50 (.int .i64 0) HT_ ?_ ?_
 ·intro w'
  first|(go_simp;done)|(go_simp;rfl)|(go_simp;decide)
 refine nz 50 ?_;refine pz 5 51 HT_ ?_;refine pv 6 52 (.int .i64 0) HT_ ?_ ?_
 ·intro w'
  first|(go_simp;done)|(go_simp;rfl)|(go_simp;decide)
 refine nz 52 ?_;refine pv 7 53 (.bool true) HT_ ?_ ?_
 ·intro w'
  first|(go_simp;done)|(go_simp;rfl)|(go_simp;decide)
 refine nz 53 ?_;refine pz 8 54 HT_ ?_;refine pz 9 55 HT_ ?_;refine pv 10 56 (.bool true) HT_ ?_ ?_
 ·intro w'
  first|(go_simp;done)|(go_simp;rfl)|(go_simp;decide)
 refine nz 56 ?_;refine pv 11 57 (.bool true) HT_ ?_ ?_
 ·intro w'
  first|(go_simp;done)|(go_simp;rfl)|(go_simp;decide)
 refine nz 57 ?_;refine pz 12 58 HT_ ?_;refine pz 13 59 HT_ ?_;refine pz 14 60 HT_ ?_;refine take_ (i:=15) (N:=some 61) (v:= ?_) (a':= ?_) #[true,true,true,true,true,true,true,true,true,true,true,true,true,true,true,true,false,false,false,false,false,false,false,false,false,false,false,false,false,false,false,false,false,false,false,false,false,false,false,false,false,false,false,false,false,false,false,false] rfl rfl (take_ofW HT_.out HW_.out (by kernel_rfl)) (fun _ _ _ h=>h) (Or.inl ⟨by rfl, ?_⟩) hHeld ?_ ?_
 rotate_left
 ·intro w' s0
  obtain ⟨s0,s1,s2,s3⟩:=s0;have s0_:=(blk_cell s0 2).trans (rfl:_=some (.int .u16 1000:Value))
  go_simp
  with_reducible rfl
 rotate_left
 ·simp only [vF]
  rfl
 refine pv 16 62 (.bool true) HT_ ?_ ?_
 ·intro w'
  first|(go_simp;done)|(go_simp;rfl)|(go_simp;decide)
 refine nz 62 ?_;refine pv 17 63 (.bool true) HT_ ?_ ?_
 ·intro w'
  first|(go_simp;done)|(go_simp;rfl)|(go_simp;decide)
 refine nz 63 ?_;refine pz 18 64 HT_ ?_;refine pz 19 65 HT_ ?_;refine pz 21 67 HT_ ?_;refine tv 20 66 (.agg #[.int .u32 1,.int .u16 9]) HT_ HW_ hHeld ?_ ?_
 ·intro w' s0
  obtain ⟨s0,s1,s2,s3⟩:=s0;exact load_mid_ (p:= .tmp 65) (ty:=65) (cs:=[.int .u32 1,.int .u16 9]) (by rfl) (by rfl) (World.rangeAt_of_block s1 1 2) hu65 (by rfl) HI65.out
 refine nz 66 ?_;refine pv 22 68 (.bool true) HT_ ?_ ?_
 ·intro w'
  first|(go_simp;done)|(go_simp;rfl)|(go_simp;decide)
 refine nz 68 ?_;refine pv 23 69 (.bool true) HT_ ?_ ?_
 ·intro w'
  first|(go_simp;done)|(go_simp;rfl)|(go_simp;decide)
 refine nz 69 ?_;refine pz 24 70 HT_ ?_;refine pz 25 71 HT_ ?_;refine pz 27 73 HT_ ?_;refine tv 26 72 (.agg #[.int .u32 2,.int .u16 9]) HT_ HW_ hHeld ?_ ?_
 ·intro w' s0
  obtain ⟨s0,s1,s2,s3⟩:=s0;exact load_mid_ (p:= .tmp 71) (ty:=65) (cs:=[.int .u32 2,.int .u16 9]) (by rfl) (by rfl) (World.rangeAt_of_block s1 3 2) hu65 (by rfl) HI65.out
 refine nz 72 ?_;refine pv 28 74 (.bool true) HT_ ?_ ?_
 ·intro w'
  first|(go_simp;done)|(go_simp;rfl)|(go_simp;decide)
 refine nz 74 ?_;refine pv 29 75 (.bool true) HT_ ?_ ?_
 ·intro w'
  first|(go_simp;done)|(go_simp;rfl)|(go_simp;decide)
 refine nz 75 ?_;refine pz 30 76 HT_ ?_;refine pz 31 77 HT_ ?_;refine pz 32 78 HT_ ?_;refine pz 33 79 HT_ ?_;refine pz 34 80 HT_ ?_;refine pv 35 81 (.bool true) HT_ ?_ ?_
 ·intro w'
  first|(go_simp;done)|(go_simp;rfl)|(go_simp;decide)
 refine nz 81 ?_;refine pv 36 82 (.bool true) HT_ ?_ ?_
 ·intro w'
  first|(go_simp;done)|(go_simp;rfl)|(go_simp;decide)
 refine nz 82 ?_;refine pz 37 83 HT_ ?_;refine pz 38 84 HT_ ?_;refine pure_ (i:=39) (N:=some 85) (v:= ?_) (a':= ?_) #[true,true,true,true,true,true,true,true,true,true,true,true,true,true,true,true,true,true,true,true,true,true,true,true,true,true,true,true,true,true,true,true,true,true,true,true,true,true,true,true,false,false,false,false,false,false,false,false] rfl rfl (any_of HT_.out (by kernel_rfl)) (fun _ _ _ h=>h) (Or.inl ⟨by rfl, ?_⟩) ?_ ?_
 rotate_left
 ·intro w'
  have z_:((8:Int)<(k8D.length:Int))=True:=eq_true (by decide)
  go_simp
  with_reducible rfl
 rotate_left
 ·simp only [vF]
  rfl
 refine pz 41 87 HT_ ?_;refine pure_ (i:=42) (N:=some 88) (v:= ?_) (a':= ?_) #[true,true,true,true,true,true,true,true,true,true,true,true,true,true,true,true,true,true,true,true,true,true,true,true,true,true,true,true,true,true,true,true,true,true,true,true,true,true,true,true,false,true,true,false,false,false,false,false] rfl rfl (any_of HT_.out (by kernel_rfl)) (fun _ _ _ h=>h) (Or.inl ⟨by rfl, ?_⟩) ?_ ?_
 rotate_left
 ·intro w'
  have z_:((8:Int)<(X3.length:Int))=True:=eq_true (by decide)
  go_simp
  with_reducible rfl
 rotate_left
 ·simp only [vF]
  rfl
 refine tz 40 86 HT_ HW_ hHeld ?_;refine tz 43 89 HT_ HW_ hHeld ?_;refine pv 44 90 (.int .u8 63) HT_ ?_ ?_
 ·intro w'
  first|(go_simp;done)|(go_simp;rfl)|(go_simp;decide)
 refine nz 90 ?_;refine pv 45 91 (.bool true) HT_ ?_ ?_
 ·intro w'
  first|(go_simp;done)|(go_simp;rfl)|(go_simp;decide)
 refine nz 91 ?_;refine pv 46 92 (.bool true) HT_ ?_ ?_
 ·intro w'
  first|(go_simp;done)|(go_simp;rfl)|(go_simp;decide)
 refine nz 92 ?_;refine pz 47 0 HT_ ?_;refine dz HT_ ?_;clear HT_ HW_ hHeld
 (try dsimp only)
 go_wp2
 (try simp only [Exit.inBlock,Exit.then])
 go_ret
 exact ⟨by first|rfl|decide,HB.out⟩
attribute [local go_sem] dV dW gI gJ dG dH dX dY
def aN.f (l0:List Int) (a1:Int):Option (Int):=if 0<=a1 then (if a1<(l0.length:Int) then (if 0<=(wrap64 (a1+1)) then (if (wrap64 (a1+1))<(l0.length:Int) then (some (Go.bits .or .u16 (IntKind.u16.wrap ((IntKind.u16.wrap (rd l0 a1))*256)) (IntKind.u16.wrap (rd l0 (wrap64 (a1+1)))))) else (none)) else (none)) else (none)) else (none)
theorem aN.calls (A0:Option Addr) (c0:Nat) (l0:List Int) (a1:Int) (r:Int) (w:World) (hr0:Kd.C (Kd.int .u8) w A0 l0.length l0) (hc0:l0.length<=c0) (h:aN.f l0 a1=some r):
  Calls Try.prog 64 #[.slice A0 l0.length c0,.int .i64 a1] w fun e w'=>e= .returned (.int .u16 r) /\ bf w w':=by
 have HR0:=Aside0.mk hr0;have mg:=Aside0.mk hc0;clear hr0 hc0;have H:(if 0<=a1 then (if a1<(l0.length:Int) then (if 0<=(wrap64 (a1+1)) then (if (wrap64 (a1+1))<(l0.length:Int) then (some (Go.bits .or .u16 (IntKind.u16.wrap ((IntKind.u16.wrap (rd l0 a1))*256)) (IntKind.u16.wrap (rd l0 (wrap64 (a1+1)))))) else (none)) else (none)) else (none)) else (none))=some r:=h;clear h
 by_cases c3:0<=a1
 ·rw [ah c3] at H
  have tY:decide (0<=a1)=true:=bJ c3;clear c3
  by_cases c4:a1<(l0.length:Int)
  ·rw [ah c4] at H
   have qE:decide (a1<(l0.length:Int))=true:=bJ c4;clear c4;obtain ⟨CZ,Gf⟩:∃ j_:Int,(wrap64 (a1+1))=j_:=⟨_,rfl⟩
   replace H:(if 0<=(CZ) then (if (CZ)<(l0.length:Int) then (some (Go.bits .or .u16 (IntKind.u16.wrap ((IntKind.u16.wrap (rd l0 a1))*256)) (IntKind.u16.wrap (rd l0 (CZ))))) else (none)) else (none))=some r:=by first|(rw [Gf] at H;exact H)|(simp only [Gf] at H|-;exact H)
   have Ae3:(IntKind.i64.wrap (a1+1))=CZ:=(i64_w _).trans Gf
   by_cases c6:0<=(CZ)
   ·rw [ah c6] at H
    have yY:decide (0<=(CZ))=true:=bJ c6;clear c6
    by_cases c7:(CZ)<(l0.length:Int)
    ·rw [ah c7] at H
     have Fe:decide ((CZ)<(l0.length:Int))=true:=bJ c7;clear c7;obtain rfl:=eF H;have AjS:0<=(a1:Int):=je;have AjT:a1<(l0.length:Int):=je;obtain ⟨Apa,Avj,ArJ⟩:=Kd.dU HR0.out a1 AjS AjT
     cases Avj
     replace AjS:=eq_true AjS;replace AjT:=eq_true AjT;have AjU:0<=((CZ):Int):=je;have AjV:(CZ)<(l0.length:Int):=je;obtain ⟨Apb,Avk,ArK⟩:=Kd.dU HR0.out (CZ) AjU AjV;obtain rfl:Apa=Apb:=(by injection Avk)
     replace AjU:=eq_true AjU;replace AjV:=eq_true AjV
     go_enter Try.func64,Try.ntmps64
     go_wp2
     repeat (go_quiet (fail);try go_wp2)
     go_ret
     exact ⟨by first|rfl|(simp;done)|(simp only [<- Gf]<;>(first|rfl|simp))|(simp [*];done),by repeat (first|exact bf.refl _|apply bf.step)⟩
    ·rw [aj c7] at H
     cases H
   ·rw [aj c6] at H
    cases H
  ·rw [aj c4] at H
   cases H
 ·rw [aj c3] at H
  cases H
def fK.f (l0:List Int) (a1:Int) (a2:Int):Option (List Int):=if 0<=a1 then (if a1<=a2 then (if a2<=(l0.length:Int) then (if ([]:List Int).length+((l0.take (a2:Int).toNat).drop (a1:Int).toNat).length<140737488355328 then (some (([]:List Int)++((l0.take (a2:Int).toNat).drop (a1:Int).toNat))) else (none)) else (none)) else (none)) else (none)
theorem fK.calls (A0:Option Addr) (c0:Nat) (l0:List Int) (a1:Int) (a2:Int) (r:List Int) (w:World) (hr0:Kd.C (Kd.int .u8) w A0 l0.length l0) (hc0:l0.length<=c0) (h:fK.f l0 a1 a2=some r):
  Calls Try.prog 65 #[.slice A0 l0.length c0,.int .i64 a1,.int .i64 a2] w fun e w'=>∃ uP:Value,e= .returned (uP) /\ Kd.R (Kd.int .u8) 5 w' w.heap.size (fun _=>True) uP r /\ Below w.heap.size w w':=by
 have HR0:=Aside0.mk hr0;have mg:=Aside0.mk hc0;clear hr0 hc0;have HB:=jy w;have H:(if 0<=a1 then (if a1<=a2 then (if a2<=(l0.length:Int) then (if ([]:List Int).length+((l0.take (a2:Int).toNat).drop (a1:Int).toNat).length<140737488355328 then (some (([]:List Int)++((l0.take (a2:Int).toNat).drop (a1:Int).toNat))) else (none)) else (none)) else (none)) else (none))=some r:=h;clear h
 by_cases c4:0<=a1
 ·rw [ah c4] at H
  have qE:=eq_true c4;have Eh:decide (0<=a1)=true:=bJ c4;clear c4
  by_cases c5:a1<=a2
  ·rw [ah c5] at H
   have qR:=eq_true c5;have wO:decide (a1<=a2)=true:=bJ c5;clear c5
   by_cases c6:a2<=(l0.length:Int)
   ·rw [ah c6] at H
    have yY:=eq_true c6;have Xp:decide (a2<=(l0.length:Int))=true:=bJ c6;clear c6
    by_cases c7:([]:List Int).length+((l0.take (a2:Int).toNat).drop (a1:Int).toNat).length<140737488355328
    ·rw [ah c7] at H
     have Ov:=Aside0.mk c7;clear c7;obtain ⟨AAx,Abw⟩:∃ y_:List Int,y_=(([]:List Int)++((l0.take (a2:Int).toNat).drop (a1:Int).toNat)):=⟨_,rfl⟩
     rw [<- Abw] at H
     have Apc:=Aside0.mk Abw;clear Abw;obtain rfl:=eF H;obtain ⟨i08,Apd,_,Ape,_⟩:=info_parts info5;obtain ⟨A8,Ax3,hA8,hC8⟩:=Az (P:=Try.prog) (Value.int .u8) 0 23 5 .i64 .i64 Try.underlying23 Apd Ape A0 c0 l0 a1 a2 je (by first|omega|exact je) je mg.out;have Agn:=Aside0.mk (Kd.dR (h1:=fun _=>rfl) (hA8 _ (Kd.dO HR0.out)));have Ax6:=Aside0.mk hC8;clear hA8 hC8 Apd Ape
     go_enter Try.func65,Try.ntmps65
     go_wp2_with (first|((with_reducible refine iF (b:= .append) (xs:= #[.const (.slice none 0 0),.tmp 10]) rfl ?_);at_builtin;refine Kd.jv (Kd.int .u8) (w0:=w) w.heap.size rfl (.const (.slice none 0 0)) (.tmp 10) 23 5 (.int .u8 0) 1 rfl Try.underlying23 info5 rfl (by decide) (by omega) (.slice none 0 0) ([]:List Int) ((l0.take (a2:Int).toNat).drop (a1:Int).toNat) _ _ _ (fun _=>True) (fun _=>False) rfl rfl ?aO ?aR (fun _ _ h=>h) (fun _ h=>h.elim) ?aF ?aB ?aS ?aL ?_;(case aR=>first|(rw [<- show ((l0.take (a2:Int).toNat).drop (a1:Int).toNat).length=(a2.toNat - a1.toNat) from (by rw [List.length_drop,List.length_take];have h_:(a2:Int)<=(l0.length:Int):=je;omega)];repeat (first|exact Agn.out|(with_reducible refine Kd.iL ?_ _)|(with_reducible refine Kd.iD ?_ _)|(with_reducible refine Kd.jE ?_)))|(repeat (first|exact Agn.out|(with_reducible refine Kd.iL ?_ _)|(with_reducible refine Kd.iD ?_ _)|(with_reducible refine Kd.jE ?_))));(case aB=>exact bz HB);(case aF=>exact (fun _ _=>trivial));(case aO=>exact ((Kd.bV _ _ _ _ (fun _=>True))));(case aS=>exact (below_size (bz HB)));(case aL=>have:=Ov.out;have AAy:=(show ((l0.take (a2:Int).toNat).drop (a1:Int).toNat).length=(a2.toNat - a1.toNat) from (by rw [List.length_drop,List.length_take];have h_:(a2:Int)<=(l0.length:Int):=je;omega));omega);intro AAz w9 ho hb hg hat;rw [<- Apc.out] at ho;have ay:=Aside0.mk (hb);have aC:=Aside0.mk (ho);clear HB;have HB:=ay;have Apf:=aC;clear ay aC;clear ho hb hg hat))
     go_ret
     exact ⟨_,by first|rfl|(simp [ae,af]<;>rfl)|(simp [*,ae,af]<;>rfl),by (with_reducible repeat (first|apply Kd.ik|apply Kd.gV|apply Kd.iq));exact Apf.out,bz HB⟩
    ·rw [aj c7] at H
     cases H
   ·rw [aj c6] at H
    cases H
  ·rw [aj c5] at H
   cases H
 ·rw [aj c4] at H
  cases H
attribute [local go_sem] dV dW gI gJ dG dH dX dY
def eu.f (l0:List Int) (a1:Int):Option (Int):=(aN.f l0 a1).bind fun Abx=>((aN.f l0 (wrap64 (a1+2))).bind fun Aby=>(some (Go.bits .or .u32 ((((Abx) % 4294967296)*65536) % 4294967296) ((Aby) % 4294967296))))
theorem eu.calls (A0:Option Addr) (c0:Nat) (l0:List Int) (a1:Int) (r:Int) (w:World) (hr0:Kd.C (Kd.int .u8) w A0 l0.length l0) (hc0:l0.length<=c0) (h:eu.f l0 a1=some r):
  Calls Try.prog 81 #[.slice A0 l0.length c0,.int .i64 a1] w fun e w'=>e= .returned (.int .u32 r) /\ bf w w':=by
 have HR0:=Aside0.mk hr0;have mg:=Aside0.mk hc0;clear hr0 hc0;have H:((aN.f l0 a1).bind fun Abx=>((aN.f l0 (wrap64 (a1+2))).bind fun Aby=>(some (Go.bits .or .u32 ((((Abx) % 4294967296)*65536) % 4294967296) ((Aby) % 4294967296)))))=some r:=h;clear h;replace H:=dM H;obtain ⟨Abx,CB,H⟩:=H
 (try dsimp -simprocs only at H)
 have A3:=Aside0.mk CB;clear CB;replace H:=dM H;obtain ⟨Aby,yz,H⟩:=H
 (try dsimp -simprocs only at H)
 have A4:=Aside0.mk yz;clear yz;obtain rfl:=eF H
 go_enter Try.func81,Try.ntmps81
 go_wp2_with (first|((with_reducible refine ai (f:=64) rfl ?_);refine gL 7 Try.func64 #[.slice A0 l0.length c0,.int .i64 a1] ?_;(with_reducible refine (aN.calls _ _ l0 a1 Abx _ ?au ?ax A3.out).mono ?_);(case au=>repeat (first|exact HR0.out|(with_reducible refine Kd.iL ?_ _)|(with_reducible refine Kd.iD ?_ _)|(with_reducible refine Kd.jE ?_)));(case ax=>exact mg.out);rintro e w' ⟨rfl,⟨nd,rfl⟩⟩;refine ⟨_,rfl, ?_⟩)|((with_reducible refine ai (f:=64) rfl ?_);refine gL 13 Try.func64 #[.slice A0 l0.length c0,.int .i64 (wrap64 (a1+2))] ?_;(with_reducible refine (aN.calls _ _ l0 (wrap64 (a1+2)) Aby _ ?au ?ax A4.out).mono ?_);(case au=>repeat (first|exact HR0.out|(with_reducible refine Kd.iL ?_ _)|(with_reducible refine Kd.iD ?_ _)|(with_reducible refine Kd.jE ?_)));(case ax=>exact mg.out);rintro e w' ⟨rfl,⟨nd,rfl⟩⟩;refine ⟨_,rfl, ?_⟩))
 go_ret
 exact ⟨by first|rfl|(simp;done)|(simp [*];done),by repeat (first|exact bf.refl _|apply bf.step)⟩
attribute [local go_sem] dV dW gI gJ dG dH dX dY
def jI.f (l0:List Int):Option (Int×Int×Int×Int×Int×Int×Int×Int×List Int×List Int×Int):=if (l0.length:Int)<20 then (some (0,0,0,0,0,0,0,0,([]:List Int),([]:List Int),20)) else (if 12<(l0.length:Int) then (if (wrap64 ((wrap64 ((rd l0 12) / 16))*4))<20 then (some (0,0,0,0,0,0,0,0,([]:List Int),([]:List Int),21)) else (if (l0.length:Int)<(wrap64 ((wrap64 ((rd l0 12) / 16))*4)) then (some (0,0,0,0,0,0,0,0,([]:List Int),([]:List Int),20)) else ((aN.f l0 0).bind fun DI=>((aN.f l0 2).bind fun EG=>((eu.f l0 4).bind fun Fz=>((eu.f l0 8).bind fun GM=>(if 13<(l0.length:Int) then ((aN.f l0 14).bind fun I5=>((aN.f l0 16).bind fun LC=>((aN.f l0 18).bind fun Na=>((fK.f l0 20 (wrap64 ((wrap64 ((rd l0 12) / 16))*4))).bind fun PW=>((fK.f l0 (wrap64 ((wrap64 ((rd l0 12) / 16))*4)) (l0.length:Int)).bind fun S9=>(some (DI,EG,Fz,GM,rd l0 13,I5,LC,Na,PW,S9,0))))))) else (none)))))))) else (none))
def jI.T8:Bool×List (List Nat×List Nat):=(true,[([],[]),([0],[0]),([],[]),([2,1],[2]),([],[]),([4,3],[4]),([],[]),([6,5],[6]),([],[]),([8],[8]),([9],[9]),([],[]),([11,7],[11]),([],[]),([13,12],[13]),([],[]),([15,14],[15]),([],[]),([],[]),([17,18,16],[17,18]),([],[]),([],[]),([],[]),([22],[22]),([20,21,23,19],[20,21,23]),([1,3,5,7,10,12,14,16,19,24],[1,3,5,7,10,12,14,16,19,24]),([25,24,0,1,2,3,4,5,6,7,8,9,10,11,12,13,14,15,16,17,18,19,20,21,22,23,24,25],[25]),([26,0,1,2,3,4,5,6,7,8,9,10,11,12,13,14,15,16,17,18,19,20,21,22,23,24,25,26],[])])
def jI.B8:List Nat:=[0,1,0,7,0,31,0,127,0,256,768,0,2303,0,14591,0,63743,0,0,522495,0,0,0,4194304,16775423,33554431,67108863,134217727]
theorem jI.MP:rtab .any (opsOf Try.f73 8)=jI.T8:=by kernel_rfl
theorem jI.EM:waitsOk jI.T8.2 jI.B8=true:=by kernel_rfl
theorem jI.calls (A0:Option Addr) (c0:Nat) (l0:List Int) (r1:Int) (r2:Int) (r3:Int) (r4:Int) (r5:Int) (r6:Int) (r7:Int) (r8:Int) (r9:List Int) (r10:List Int) (r11:Int) (w:World) (hr0:Kd.C (Kd.int .u8) w A0 l0.length l0) (hc0:l0.length<=c0) (h:jI.f l0=some (r1,r2,r3,r4,r5,r6,r7,r8,r9,r10,r11)):
  Calls Try.prog 73 #[.slice A0 l0.length c0] w fun e w'=>∃ Jf Jg:Value,e= .returned (.tuple #[.agg #[.int .u16 r1,.int .u16 r2,.int .u32 r3,.int .u32 r4,.int .u8 r5,.int .u16 r6,.int .u16 r7,.int .u16 r8,Jf,Jg],.int .i64 r11]) /\ Kd.R (Kd.int .u8) 5 w' w.heap.size (fun k_=>some k_≠(Jg:Value).ownBlock) Jf r9 /\ Kd.R (Kd.int .u8) 5 w' w.heap.size (fun k_=>some k_≠(Jf:Value).ownBlock) Jg r10 /\ Below w.heap.size w w':=by
 have Ag:=Try.underlying137;have HR0:=Aside0.mk hr0;have mg:=Aside0.mk hc0;clear hr0 hc0;have HB:=jy w
 have H:(if (l0.length:Int)<20 then (some (0,0,0,0,0,0,0,0,([]:List Int),([]:List Int),20)) else (if 12<(l0.length:Int) then (if (wrap64 ((wrap64 ((rd l0 12) / 16))*4))<20 then (some (0,0,0,0,0,0,0,0,([]:List Int),([]:List Int),21)) else (if (l0.length:Int)<(wrap64 ((wrap64 ((rd l0 12) / 16))*4)) then (some (0,0,0,0,0,0,0,0,([]:List Int),([]:List Int),20)) else ((aN.f l0 0).bind fun DI=>((aN.f l0 2).bind fun EG=>((eu.f l0 4).bind fun Fz=>((eu.f l0 8).bind fun GM=>(if 13<(l0.length:Int) then ((aN.f l0 14).bind fun I5=>((aN.f l0 16).bind fun LC=>((aN.f l0 18).bind fun Na=>((fK.f l0 20 (wrap64 ((wrap64 ((rd l0 12) / 16))*4))).bind fun PW=>((fK.f l0 (wrap64 ((wrap64 ((rd l0 12) / 16))*4)) (l0.length:Int)).bind fun S9=>(some (DI,EG,Fz,GM,rd l0 13,I5,LC,Na,PW,S9,0))))))) else (none)))))))) else (none)))=some (r1,r2,r3,r4,r5,r6,r7,r8,r9,r10,r11):=h
 clear h
 by_cases c2:(l0.length:Int)<20
 ·rw [ah c2] at H
  have nV:decide ((l0.length:Int)<20)=true:=bJ c2;have qQ:decide (l0.length<20)=true:=bJ (by omega);clear c2;simp only [Option.some.injEq,Prod.mk.injEq] at H
  obtain ⟨rfl,rfl,rfl,rfl,rfl,rfl,rfl,rfl,rfl,rfl,rfl⟩:=H
  go_enter Try.func73,Try.ntmps73
  go_wp2_with (first|((with_reducible refine gate_dst (N:=2) rfl ?_);refine box_event ?hg (N:=2) ?hd (cs:= #[.int .u16 0,.int .u16 0,.int .u32 0,.int .u32 0,.int .u8 0,.int .u16 0,.int .u16 0,.int .u16 0,.slice none 0 0,.slice none 0 0]) (t:=137) ?hr ?_;(case hd=>rfl);(case hg=>rfl);(case hr=>first|(go_simp;done)|(go_simp;rfl));intro gX hg w3 hbox hb;have ay:=Aside0.mk (ag (bz HB) hb);have aC:=Aside0.mk (hbox);have bg:=Aside0.mk ((by rw [hg];exact (below_size (bz HB)):w.heap.size<=gX));have dm:=Aside0.mk ((by rw [hg];exact (below_size (bz HB)):w.heap.size<=gX));clear HB;have HB:=ay;have fQ:=aC;have sQ:=bg;have Abz:=dm;clear ay aC bg dm;clear hb hbox hg;have vK:w3.cell? ⟨gX,0,none⟩=some (.int .u16 0):=cz fQ.out 0 rfl;have vM:w3.cell? ⟨gX,1,none⟩=some (.int .u16 0):=cz fQ.out 1 rfl;have vN:w3.cell? ⟨gX,2,none⟩=some (.int .u32 0):=cz fQ.out 2 rfl;have vO:w3.cell? ⟨gX,3,none⟩=some (.int .u32 0):=cz fQ.out 3 rfl;have zU:w3.cell? ⟨gX,4,none⟩=some (.int .u8 0):=cz fQ.out 4 rfl;have O4:w3.cell? ⟨gX,5,none⟩=some (.int .u16 0):=cz fQ.out 5 rfl;have O5:w3.cell? ⟨gX,6,none⟩=some (.int .u16 0):=cz fQ.out 6 rfl;have O6:w3.cell? ⟨gX,7,none⟩=some (.int .u16 0):=cz fQ.out 7 rfl;have O7:w3.cell? ⟨gX,8,none⟩=some (.slice none 0 0):=cz fQ.out 8 rfl;have Pg:w3.cell? ⟨gX,9,none⟩=some (.slice none 0 0):=cz fQ.out 9 rfl;have vP:=blk_frozen fQ.out 0;have vS:=blk_frozen fQ.out 1;have vT:=blk_frozen fQ.out 2;have vU:=blk_frozen fQ.out 3;have zV:=blk_frozen fQ.out 4;have Ph:=blk_frozen fQ.out 5;have Pj:=blk_frozen fQ.out 6;have Pm:=blk_frozen fQ.out 7;have Pn:=blk_frozen fQ.out 8;have Po:=blk_frozen fQ.out 9))
  refine bodyPost_ret (iJ rfl _ _ gX 137 #[.int .u16 0,.int .u16 0,.int .u32 0,.int .u32 0,.int .u8 0,.int .u16 0,.int .u16 0,.int .u16 0,.slice none 0 0,.slice none 0 0] (0,0) _ rfl (by (repeat (first|with_reducible refine aH ?_ _|with_reducible refine az ?_|with_reducible refine aG ?_ _|refine bH (cs:= #[.int .u16 0,.int .u16 0,.int .u32 0,.int .u32 0,.int .u8 0,.int .u16 0,.int .u16 0,.int .u16 0,.slice none 0 0,.slice none 0 0]) ?_ _ _ rfl));(with_reducible repeat (first|refine aH ?_ _|refine az ?_|refine aG ?_ _));exact fQ.out) Try.underlying137 rfl (by kernel_rfl)) rfl ?_
  exact ⟨_,_,by first|rfl|(simp [ae,af]<;>rfl)|(simp [*,ae,af]<;>rfl),by first|exact Kd.bV _ _ _ _ _|exact Kd.lV _ _ _ _ _|exact Kd.lW _ _ _ _ _|exact Kd.lT _ _ _ _ _|exact Kd.lU _ _ _ _ _,by first|exact Kd.bV _ _ _ _ _|exact Kd.lV _ _ _ _ _|exact Kd.lW _ _ _ _ _|exact Kd.lT _ _ _ _ _|exact Kd.lU _ _ _ _ _,bz HB⟩
 ·rw [aj c2] at H
  have nV:decide ((l0.length:Int)<20)=false:=jC c2;have qQ:decide (l0.length<20)=false:=jC (by omega);clear c2
  by_cases c5:12<(l0.length:Int)
  ·rw [ah c5] at H
   have qR:decide (12<(l0.length:Int))=true:=bJ c5;have wO:decide (12<l0.length)=true:=bJ (by omega);clear c5
   by_cases c6:(wrap64 ((wrap64 ((rd l0 12) / 16))*4))<20
   ·rw [ah c6] at H
    have yY:decide ((wrap64 ((wrap64 ((rd l0 12) / 16))*4))<20)=true:=bJ c6;clear c6;simp only [Option.some.injEq,Prod.mk.injEq] at H
    obtain ⟨rfl,rfl,rfl,rfl,rfl,rfl,rfl,rfl,rfl,rfl,rfl⟩:=H
    go_enter Try.func73,Try.ntmps73
    go_wp2_with (first|((with_reducible refine gate_dst (N:=2) rfl ?_);refine box_event ?hg (N:=2) ?hd (cs:= #[.int .u16 0,.int .u16 0,.int .u32 0,.int .u32 0,.int .u8 0,.int .u16 0,.int .u16 0,.int .u16 0,.slice none 0 0,.slice none 0 0]) (t:=137) ?hr ?_;(case hd=>rfl);(case hg=>rfl);(case hr=>first|(go_simp;done)|(go_simp;rfl));intro gX hg w7 hbox hb;have ay:=Aside0.mk (ag (bz HB) hb);have aC:=Aside0.mk (hbox);have bg:=Aside0.mk ((by rw [hg];exact (below_size (bz HB)):w.heap.size<=gX));have dm:=Aside0.mk ((by rw [hg];exact (below_size (bz HB)):w.heap.size<=gX));clear HB;have HB:=ay;have fQ:=aC;have sQ:=bg;have Abz:=dm;clear ay aC bg dm;clear hb hbox hg;have LD:0<=(12:Int):=(by omega);have LG:12<(l0.length:Int):=je;obtain ⟨zM,AbA,qm⟩:=Kd.dU HR0.out 12 LD LG;cases AbA;(try simp only [show (12:Int).toNat=12 from rfl,Nat.reduceMul,Nat.reduceEqDiff,Go.Addr.add,↓reduceIte] at qm);have Ago:(12<l0.length)=True:=eq_true (by omega);(try rw [show ((12:Int)).toNat=12 from rfl] at qm);replace qm:=(HB.out.cell (dS w _ qm)).trans qm;replace LD:=eq_true LD;replace LG:=eq_true LG;have Ug:w7.cell? ⟨gX,0,none⟩=some (.int .u16 0):=cz fQ.out 0 rfl;have Uh:w7.cell? ⟨gX,1,none⟩=some (.int .u16 0):=cz fQ.out 1 rfl;have Ui:w7.cell? ⟨gX,2,none⟩=some (.int .u32 0):=cz fQ.out 2 rfl;have Uj:w7.cell? ⟨gX,3,none⟩=some (.int .u32 0):=cz fQ.out 3 rfl;have AiI:w7.cell? ⟨gX,4,none⟩=some (.int .u8 0):=cz fQ.out 4 rfl;have AiJ:w7.cell? ⟨gX,5,none⟩=some (.int .u16 0):=cz fQ.out 5 rfl;have AiK:w7.cell? ⟨gX,6,none⟩=some (.int .u16 0):=cz fQ.out 6 rfl;have AiL:w7.cell? ⟨gX,7,none⟩=some (.int .u16 0):=cz fQ.out 7 rfl;have AiM:w7.cell? ⟨gX,8,none⟩=some (.slice none 0 0):=cz fQ.out 8 rfl;have AiN:w7.cell? ⟨gX,9,none⟩=some (.slice none 0 0):=cz fQ.out 9 rfl;have Uk:=blk_frozen fQ.out 0;have Ul:=blk_frozen fQ.out 1;have Um:=blk_frozen fQ.out 2;have Un:=blk_frozen fQ.out 3;have AiO:=blk_frozen fQ.out 4;have AiP:=blk_frozen fQ.out 5;have AiQ:=blk_frozen fQ.out 6;have AiR:=blk_frozen fQ.out 7;have AiS:=blk_frozen fQ.out 8;have AiT:=blk_frozen fQ.out 9))
    refine bodyPost_ret (iJ rfl _ _ gX 137 #[.int .u16 0,.int .u16 0,.int .u32 0,.int .u32 0,.int .u8 0,.int .u16 0,.int .u16 0,.int .u16 0,.slice none 0 0,.slice none 0 0] (0,0) _ rfl (by (repeat (first|with_reducible refine aH ?_ _|with_reducible refine az ?_|with_reducible refine aG ?_ _|refine bH (cs:= #[.int .u16 0,.int .u16 0,.int .u32 0,.int .u32 0,.int .u8 0,.int .u16 0,.int .u16 0,.int .u16 0,.slice none 0 0,.slice none 0 0]) ?_ _ _ rfl));(with_reducible repeat (first|refine aH ?_ _|refine az ?_|refine aG ?_ _));exact fQ.out) Try.underlying137 rfl (by kernel_rfl)) rfl ?_
    exact ⟨_,_,by first|rfl|(simp [ae,af]<;>rfl)|(simp [*,ae,af]<;>rfl),by first|exact Kd.bV _ _ _ _ _|exact Kd.lV _ _ _ _ _|exact Kd.lW _ _ _ _ _|exact Kd.lT _ _ _ _ _|exact Kd.lU _ _ _ _ _,by first|exact Kd.bV _ _ _ _ _|exact Kd.lV _ _ _ _ _|exact Kd.lW _ _ _ _ _|exact Kd.lT _ _ _ _ _|exact Kd.lU _ _ _ _ _,bz HB⟩
   ·rw [aj c6] at H
    have yY:decide ((wrap64 ((wrap64 ((rd l0 12) / 16))*4))<20)=false:=jC c6;clear c6
    by_cases c9:(l0.length:Int)<(wrap64 ((wrap64 ((rd l0 12) / 16))*4))
    ·rw [ah c9] at H
     have CW:decide ((l0.length:Int)<(wrap64 ((wrap64 ((rd l0 12) / 16))*4)))=true:=bJ c9;clear c9;simp only [Option.some.injEq,Prod.mk.injEq] at H
     obtain ⟨rfl,rfl,rfl,rfl,rfl,rfl,rfl,rfl,rfl,rfl,rfl⟩:=H
     go_enter Try.func73,Try.ntmps73
     go_wp2_with (first|((with_reducible refine gate_dst (N:=2) rfl ?_);refine box_event ?hg (N:=2) ?hd (cs:= #[.int .u16 0,.int .u16 0,.int .u32 0,.int .u32 0,.int .u8 0,.int .u16 0,.int .u16 0,.int .u16 0,.slice none 0 0,.slice none 0 0]) (t:=137) ?hr ?_;(case hd=>rfl);(case hg=>rfl);(case hr=>first|(go_simp;done)|(go_simp;rfl));intro gX hg w10 hbox hb;have ay:=Aside0.mk (ag (bz HB) hb);have aC:=Aside0.mk (hbox);have bg:=Aside0.mk ((by rw [hg];exact (below_size (bz HB)):w.heap.size<=gX));have dm:=Aside0.mk ((by rw [hg];exact (below_size (bz HB)):w.heap.size<=gX));clear HB;have HB:=ay;have fQ:=aC;have sQ:=bg;have Abz:=dm;clear ay aC bg dm;clear hb hbox hg;have LD:0<=(12:Int):=(by omega);have LG:12<(l0.length:Int):=je;obtain ⟨zM,AbA,qm⟩:=Kd.dU HR0.out 12 LD LG;cases AbA;(try simp only [show (12:Int).toNat=12 from rfl,Nat.reduceMul,Nat.reduceEqDiff,Go.Addr.add,↓reduceIte] at qm);have Ago:(12<l0.length)=True:=eq_true (by omega);(try rw [show ((12:Int)).toNat=12 from rfl] at qm);replace qm:=(HB.out.cell (dS w _ qm)).trans qm;replace LD:=eq_true LD;replace LG:=eq_true LG;have DW:w10.cell? ⟨gX,0,none⟩=some (.int .u16 0):=cz fQ.out 0 rfl;have DX:w10.cell? ⟨gX,1,none⟩=some (.int .u16 0):=cz fQ.out 1 rfl;have DY:w10.cell? ⟨gX,2,none⟩=some (.int .u32 0):=cz fQ.out 2 rfl;have DZ:w10.cell? ⟨gX,3,none⟩=some (.int .u32 0):=cz fQ.out 3 rfl;have O1:w10.cell? ⟨gX,4,none⟩=some (.int .u8 0):=cz fQ.out 4 rfl;have ArL:w10.cell? ⟨gX,5,none⟩=some (.int .u16 0):=cz fQ.out 5 rfl;have ArM:w10.cell? ⟨gX,6,none⟩=some (.int .u16 0):=cz fQ.out 6 rfl;have ArN:w10.cell? ⟨gX,7,none⟩=some (.int .u16 0):=cz fQ.out 7 rfl;have ArO:w10.cell? ⟨gX,8,none⟩=some (.slice none 0 0):=cz fQ.out 8 rfl;have ArP:w10.cell? ⟨gX,9,none⟩=some (.slice none 0 0):=cz fQ.out 9 rfl;have D9:=blk_frozen fQ.out 0;have Ea:=blk_frozen fQ.out 1;have Eb:=blk_frozen fQ.out 2;have Ec:=blk_frozen fQ.out 3;have O3:=blk_frozen fQ.out 4;have ArQ:=blk_frozen fQ.out 5;have ArR:=blk_frozen fQ.out 6;have ArS:=blk_frozen fQ.out 7;have ArT:=blk_frozen fQ.out 8;have ArU:=blk_frozen fQ.out 9))
     refine bodyPost_ret (iJ rfl _ _ gX 137 #[.int .u16 0,.int .u16 0,.int .u32 0,.int .u32 0,.int .u8 0,.int .u16 0,.int .u16 0,.int .u16 0,.slice none 0 0,.slice none 0 0] (0,0) _ rfl (by (repeat (first|with_reducible refine aH ?_ _|with_reducible refine az ?_|with_reducible refine aG ?_ _|refine bH (cs:= #[.int .u16 0,.int .u16 0,.int .u32 0,.int .u32 0,.int .u8 0,.int .u16 0,.int .u16 0,.int .u16 0,.slice none 0 0,.slice none 0 0]) ?_ _ _ rfl));(with_reducible repeat (first|refine aH ?_ _|refine az ?_|refine aG ?_ _));exact fQ.out) Try.underlying137 rfl (by kernel_rfl)) rfl ?_
     exact ⟨_,_,by first|rfl|(simp [ae,af]<;>rfl)|(simp [*,ae,af]<;>rfl),by first|exact Kd.bV _ _ _ _ _|exact Kd.lV _ _ _ _ _|exact Kd.lW _ _ _ _ _|exact Kd.lT _ _ _ _ _|exact Kd.lU _ _ _ _ _,by first|exact Kd.bV _ _ _ _ _|exact Kd.lV _ _ _ _ _|exact Kd.lW _ _ _ _ _|exact Kd.lT _ _ _ _ _|exact Kd.lU _ _ _ _ _,bz HB⟩
    ·rw [aj c9] at H
     have CW:decide ((l0.length:Int)<(wrap64 ((wrap64 ((rd l0 12) / 16))*4)))=false:=jC c9;clear c9;replace H:=dM H;obtain ⟨DI,Gh,H⟩:=H
     (try dsimp -simprocs only at H)
     have A12:=Aside0.mk Gh;clear Gh;replace H:=dM H;obtain ⟨EG,J6,H⟩:=H
     (try dsimp -simprocs only at H)
     have YB:=Aside0.mk J6;clear J6;replace H:=dM H;obtain ⟨Fz,JX,H⟩:=H
     (try dsimp -simprocs only at H)
     have A14:=Aside0.mk JX;clear JX;replace H:=dM H;obtain ⟨GM,Ld,H⟩:=H
     (try dsimp -simprocs only at H)
     have A15:=Aside0.mk Ld;clear Ld
     by_cases c16:13<(l0.length:Int)
     ·rw [ah c16] at H
      have Zz:decide (13<(l0.length:Int))=true:=bJ c16;have VM:decide (13<l0.length)=true:=bJ (by omega);clear c16;replace H:=dM H;obtain ⟨I5,QJ,H⟩:=H
      (try dsimp -simprocs only at H)
      have YD:=Aside0.mk QJ;clear QJ;replace H:=dM H;obtain ⟨LC,CV,H⟩:=H
      (try dsimp -simprocs only at H)
      have Xo:=Aside0.mk CV;clear CV;replace H:=dM H;obtain ⟨Na,J7,H⟩:=H
      (try dsimp -simprocs only at H)
      have A19:=Aside0.mk J7;clear J7;replace H:=dM H;obtain ⟨PW,JU,H⟩:=H
      (try dsimp -simprocs only at H)
      have Aw:=Aside0.mk JU;clear JU;replace H:=dM H;obtain ⟨S9,SN,H⟩:=H
      (try dsimp -simprocs only at H)
      have A21:=Aside0.mk SN;clear SN;simp only [Option.some.injEq,Prod.mk.injEq] at H
      obtain ⟨rfl,rfl,rfl,rfl,rfl,rfl,rfl,rfl,rfl,rfl,rfl⟩:=H
      go_enter Try.func73,Try.ntmps73
      try go_wp2_with (first|((with_reducible refine gate_dst (N:=2) rfl ?_);refine box_event ?hg (N:=2) ?hd (cs:= #[.int .u16 0,.int .u16 0,.int .u32 0,.int .u32 0,.int .u8 0,.int .u16 0,.int .u16 0,.int .u16 0,.slice none 0 0,.slice none 0 0]) (t:=137) ?hr ?_;(case hd=>rfl);(case hg=>rfl);(case hr=>first|(go_simp;done)|(go_simp;rfl));intro gX hg w22 hbox hb;have ay:=Aside0.mk (ag (bz HB) hb);have aC:=Aside0.mk (hbox);have bg:=Aside0.mk ((by rw [hg];exact (below_size (bz HB)):w.heap.size<=gX));have dm:=Aside0.mk ((by rw [hg];exact (below_size (bz HB)):w.heap.size<=gX));clear HB;have HB:=ay;have fQ:=aC;have sQ:=bg;have Abz:=dm;clear ay aC bg dm;clear hb hbox hg;have LD:0<=(12:Int):=(by omega);have LG:12<(l0.length:Int):=je;obtain ⟨zM,AbA,qm⟩:=Kd.dU HR0.out 12 LD LG;cases AbA;(try simp only [show (12:Int).toNat=12 from rfl,Nat.reduceMul,Nat.reduceEqDiff,Go.Addr.add,↓reduceIte] at qm);have Ago:(12<l0.length)=True:=eq_true (by omega);(try rw [show ((12:Int)).toNat=12 from rfl] at qm);replace qm:=(HB.out.cell (dS w _ qm)).trans qm;replace LD:=eq_true LD;replace LG:=eq_true LG))
      have ay:=Aside0.mk (az fQ.out);have aC:=Aside0.mk (below_drew1 HB.out);clear fQ;clear HB;have fQ:=ay;have HB:=aC;clear ay aC;have AjW:0<=(13:Int):=(by omega)
      have AjX:13<(l0.length:Int):=je;obtain ⟨Apg,Avl,BJ⟩:=Kd.dU HR0.out 13 AjW AjX;have iw:=BJ
      (try rw [show ((13:Int)).toNat=13 from rfl] at iw)
      (try rw [show 13*1=13 from rfl] at iw)
      (try simp only [Nat.reduceMul,Nat.reduceEqDiff,Go.Addr.add,↓reduceIte] at iw)
      obtain rfl:zM=Apg:=(by injection Avl)
      (try simp only [show (13:Int).toNat=13 from rfl,Nat.reduceMul,Nat.reduceEqDiff,Go.Addr.add,↓reduceIte] at BJ)
      have Ax7:(13<l0.length)=True:=eq_true (by omega)
      (try rw [show ((13:Int)).toNat=13 from rfl] at BJ)
      replace BJ:=(HB.out.cell (dS w _ BJ)).trans BJ;replace AjW:=eq_true AjW;replace AjX:=eq_true AjX;refine start_ (n:=28) (S:=fun w'=>w'.cell? ⟨zM.block,zM.off+13,none⟩=some (.int .u8 (rd l0 13))) (ds:=[]) #[false,false,false,false,false,false,false,false,false,false,false,false,false,false,false,false,false,false,false,false,false,false,false,false,false,false,false,false] (by kernel_rfl) rfl rfl (((HB.out.cell (dS w _ iw)).trans iw)) (fun hHeld=> ?_);refine with_tabW jI.MP jI.EM (fun HT_ HW_=> ?_);generalize w22.drew=w23 at fQ HB BJ hHeld|-
      refine pz 0 23 HT_ ?_;refine pz 2 25 HT_ ?_;refine pz 4 27 HT_ ?_;refine pz 6 29 HT_ ?_;refine pz 8 31 HT_ ?_;refine pz 9 32 HT_ ?_;refine pz 11 34 HT_ ?_;refine pz 13 36 HT_ ?_;refine pz 15 38 HT_ ?_;refine pz 17 40 HT_ ?_;refine pz 18 41 HT_ ?_;refine pz 20 43 HT_ ?_;refine pz 21 44 HT_ ?_;refine pz 22 45 HT_ ?_;refine pz 23 46 HT_ ?_;refine tz 10 33 HT_ HW_ hHeld ?_;refine oz 1 (some 24) HT_ (fun K hK=> ?_);refine gG Try.func64 #[.slice (some zM) l0.length c0,.int .i64 0] ?_
      with_reducible refine (aN.calls _ _ l0 0 DI _ ?au ?ax A12.out).mono ?_
      (case au=>exact Kd.aJ HR0.out (bz HB))
      (case ax=>exact mg.out)
      rintro e w' ⟨rfl,⟨nd,rfl⟩⟩;refine ⟨_,rfl, ?_⟩;refine hK.out _ _ (((HB.out.cell (dS w _ iw)).trans iw)) (fun hHeld=> ?_);clear hK K;refine nz 24 ?_;refine oz 3 (some 26) HT_ (fun K hK=> ?_);refine gG Try.func64 #[.slice (some zM) l0.length c0,.int .i64 2] ?_
      with_reducible refine (aN.calls _ _ l0 2 EG _ ?au ?ax YB.out).mono ?_
      (case au=>exact Kd.aJ HR0.out (bz HB))
      (case ax=>exact mg.out)
      rintro e w' ⟨rfl,⟨nd,rfl⟩⟩;refine ⟨_,rfl, ?_⟩;refine hK.out _ _ (((HB.out.cell (dS w _ iw)).trans iw)) (fun hHeld=> ?_);clear hK K;refine nz 26 ?_;refine oz 5 (some 28) HT_ (fun K hK=> ?_);refine gG Try.func81 #[.slice (some zM) l0.length c0,.int .i64 4] ?_
      with_reducible refine (eu.calls _ _ l0 4 Fz _ ?au ?ax A14.out).mono ?_
      (case au=>exact Kd.aJ HR0.out (bz HB))
      (case ax=>exact mg.out)
      rintro e w' ⟨rfl,⟨nd,rfl⟩⟩;refine ⟨_,rfl, ?_⟩;refine hK.out _ _ (((HB.out.cell (dS w _ iw)).trans iw)) (fun hHeld=> ?_);clear hK K;refine nz 28 ?_;refine oz 7 (some 30) HT_ (fun K hK=> ?_);refine gG Try.func81 #[.slice (some zM) l0.length c0,.int .i64 8] ?_
      with_reducible refine (eu.calls _ _ l0 8 GM _ ?au ?ax A15.out).mono ?_
      (case au=>exact Kd.aJ HR0.out (bz HB))
      (case ax=>exact mg.out)
      rintro e w' ⟨rfl,⟨nd,rfl⟩⟩;refine ⟨_,rfl, ?_⟩;refine hK.out _ _ (((HB.out.cell (dS w _ iw)).trans iw)) (fun hHeld=> ?_);clear hK K;refine nz 30 ?_;refine oz 12 (some 35) HT_ (fun K hK=> ?_);refine gG Try.func64 #[.slice (some zM) l0.length c0,.int .i64 14] ?_
      with_reducible refine (aN.calls _ _ l0 14 I5 _ ?au ?ax YD.out).mono ?_
      (case au=>exact Kd.aJ HR0.out (bz HB))
      (case ax=>exact mg.out)
      rintro e w' ⟨rfl,⟨nd,rfl⟩⟩;refine ⟨_,rfl, ?_⟩;refine hK.out _ _ (((HB.out.cell (dS w _ iw)).trans iw)) (fun hHeld=> ?_);clear hK K;refine nz 35 ?_;refine oz 14 (some 37) HT_ (fun K hK=> ?_);refine gG Try.func64 #[.slice (some zM) l0.length c0,.int .i64 16] ?_
      with_reducible refine (aN.calls _ _ l0 16 LC _ ?au ?ax Xo.out).mono ?_
      (case au=>exact Kd.aJ HR0.out (bz HB))
      (case ax=>exact mg.out)
      rintro e w' ⟨rfl,⟨nd,rfl⟩⟩;refine ⟨_,rfl, ?_⟩;refine hK.out _ _ (((HB.out.cell (dS w _ iw)).trans iw)) (fun hHeld=> ?_);clear hK K;refine nz 37 ?_;refine oz 16 (some 39) HT_ (fun K hK=> ?_);refine gG Try.func64 #[.slice (some zM) l0.length c0,.int .i64 18] ?_
      with_reducible refine (aN.calls _ _ l0 18 Na _ ?au ?ax A19.out).mono ?_
      (case au=>exact Kd.aJ HR0.out (bz HB))
      (case ax=>exact mg.out)
      rintro e w' ⟨rfl,⟨nd,rfl⟩⟩;refine ⟨_,rfl, ?_⟩;refine hK.out _ _ (((HB.out.cell (dS w _ iw)).trans iw)) (fun hHeld=> ?_);clear hK K;refine nz 39 ?_;refine oz 19 (some 42) HT_ (fun K hK=> ?_);refine gG Try.func65 #[.slice (some zM) l0.length c0,.int .i64 20,.int .i64 (wrap64 ((wrap64 ((rd l0 12) / 16))*4))] ?_
      with_reducible refine (fK.calls _ _ l0 20 (wrap64 ((wrap64 ((rd l0 12) / 16))*4)) PW _ ?au ?ax Aw.out).mono ?_
      (case au=>exact Kd.aJ HR0.out (bz HB))
      (case ax=>exact mg.out)
      rintro e w24 ⟨AAA,rfl,ho0,hb⟩;refine ⟨_,rfl, ?_⟩;have ay:=Aside0.mk (Kd.R_lower ho0 (below_size (bz HB)));have aC:=Aside0.mk (aZ (kz fQ) hb);have bg:=Aside0.mk (ag (bz HB) hb);clear fQ;clear HB;have NL:=ay;have fQ:=aC;have HB:=bg;clear ay aC bg
      (try clear hb)
      (try clear hb2)
      (try clear hk)
      (try clear hi)
      (try clear ho0)
      refine hK.out _ _ (((HB.out.cell (dS w _ iw)).trans iw)) (fun hHeld=> ?_);clear hK K;refine nz 42 ?_;refine oz 24 (some 47) HT_ (fun K hK=> ?_);refine gG Try.func65 #[.slice (some zM) l0.length c0,.int .i64 (wrap64 ((wrap64 ((rd l0 12) / 16))*4)),.int .i64 (l0.length:Int)] ?_
      with_reducible refine (fK.calls _ _ l0 (wrap64 ((wrap64 ((rd l0 12) / 16))*4)) (l0.length:Int) S9 _ ?au ?ax A21.out).mono ?_
      (case au=>exact Kd.aJ HR0.out (bz HB))
      (case ax=>exact mg.out)
      rintro e w25 ⟨AAB,rfl,ho0,hb⟩;refine ⟨_,rfl, ?_⟩;have ay:=Aside0.mk (Kd.rD (Kd.rz NL) (Kd.nU ho0) hb);have aC:=Aside0.mk (Kd.R_lower (Kd.xy ho0 (Kd.uB (Kd.rz NL))) (below_size (bz HB)));have bg:=Aside0.mk (aZ (kz fQ) hb);have dm:=Aside0.mk (ag (bz HB) hb);clear NL;clear fQ;clear HB;have NL:=ay;have Agp:=aC;have fQ:=bg;have HB:=dm;clear ay aC bg dm
      (try clear hb)
      (try clear hb2)
      (try clear hk)
      (try clear hi)
      (try clear ho0)
      obtain ⟨AjY,AjZ,Aph⟩:=Kd.dN Agp.out
      (first|subst Aph|(injection Aph with rF xE rG;have xG:=rF.symm;have xH:=rG.symm;clear rF xE rG;subst xG;subst xH))
      obtain ⟨SE,SG,Abi⟩:=Kd.dN NL.out
      (first|subst Abi|(injection Abi with rF xE rG;have xG:=rF.symm;have xH:=rG.symm;clear rF xE rG;subst xG;subst xH))
      refine hK.out _ _ (((HB.out.cell (dS w _ iw)).trans iw)) (fun hHeld=> ?_);clear hK K;refine nz 47 ?_;refine pz 25 48 HT_ ?_;refine oz 26 (none) HT_ (fun K hK=> ?_);have Ax8:=xC fQ.out;have Avm:=blk_frozen fQ.out;refine CJ (w1:= ?_) (by rfl) rfl ?_ ?_
      rotate_left
      ·go_simp
       rfl
      refine hK.out _ _ (((cell_far (p:=⟨gX,_,none⟩) (by first|exact fU iw sQ.out|exact fV iw sQ.out) _).trans (((cell_far (p:=⟨gX,_,none⟩) (by first|exact fU iw sQ.out|exact fV iw sQ.out) _).trans (((cell_far (p:=⟨gX,_,none⟩) (by first|exact fU iw sQ.out|exact fV iw sQ.out) _).trans (((cell_far (p:=⟨gX,_,none⟩) (by first|exact fU iw sQ.out|exact fV iw sQ.out) _).trans (((cell_far (p:=⟨gX,_,none⟩) (by first|exact fU iw sQ.out|exact fV iw sQ.out) _).trans (((cell_far (p:=⟨gX,_,none⟩) (by first|exact fU iw sQ.out|exact fV iw sQ.out) _).trans (((cell_far (p:=⟨gX,_,none⟩) (by first|exact fU iw sQ.out|exact fV iw sQ.out) _).trans (((cell_far (p:=⟨gX,_,none⟩) (by first|exact fU iw sQ.out|exact fV iw sQ.out) _).trans (((cell_far (p:=⟨gX,_,none⟩) (by first|exact fU iw sQ.out|exact fV iw sQ.out) _).trans (((cell_far (p:=⟨gX,_,none⟩) (by first|exact fU iw sQ.out|exact fV iw sQ.out) _).trans (hHeld))))))))))))))))))))) (fun hHeld=> ?_)
      clear hK K;refine pz 27 3 HT_ ?_;refine dz HT_ ?_
      try go_wp2
      refine bodyPost_ret (iJ rfl _ _ gX 137 #[.int .u16 DI,.int .u16 EG,.int .u32 Fz,.int .u32 GM,.int .u8 (rd l0 13),.int .u16 I5,.int .u16 LC,.int .u16 Na,.slice SE PW.length SG,.slice AjY S9.length AjZ] (0,0) _ rfl (by (with_reducible repeat (first|refine aH ?_ _|refine az ?_|refine aG ?_ _));refine bH (cs:= #[.int .u16 DI,.int .u16 EG,.int .u32 Fz,.int .u32 GM,.int .u8 (rd l0 13),.int .u16 I5,.int .u16 LC,.int .u16 Na,.slice SE PW.length SG,.slice none 0 0]) ?_ 9 _ rfl;(with_reducible repeat (first|refine aH ?_ _|refine az ?_|refine aG ?_ _));refine bH (cs:= #[.int .u16 DI,.int .u16 EG,.int .u32 Fz,.int .u32 GM,.int .u8 (rd l0 13),.int .u16 I5,.int .u16 LC,.int .u16 Na,.slice none 0 0,.slice none 0 0]) ?_ 8 _ rfl;(with_reducible repeat (first|refine aH ?_ _|refine az ?_|refine aG ?_ _));refine bH (cs:= #[.int .u16 DI,.int .u16 EG,.int .u32 Fz,.int .u32 GM,.int .u8 (rd l0 13),.int .u16 I5,.int .u16 LC,.int .u16 0,.slice none 0 0,.slice none 0 0]) ?_ 7 _ rfl;(with_reducible repeat (first|refine aH ?_ _|refine az ?_|refine aG ?_ _));refine bH (cs:= #[.int .u16 DI,.int .u16 EG,.int .u32 Fz,.int .u32 GM,.int .u8 (rd l0 13),.int .u16 I5,.int .u16 0,.int .u16 0,.slice none 0 0,.slice none 0 0]) ?_ 6 _ rfl;(with_reducible repeat (first|refine aH ?_ _|refine az ?_|refine aG ?_ _));refine bH (cs:= #[.int .u16 DI,.int .u16 EG,.int .u32 Fz,.int .u32 GM,.int .u8 (rd l0 13),.int .u16 0,.int .u16 0,.int .u16 0,.slice none 0 0,.slice none 0 0]) ?_ 5 _ rfl;(with_reducible repeat (first|refine aH ?_ _|refine az ?_|refine aG ?_ _));refine bH (cs:= #[.int .u16 DI,.int .u16 EG,.int .u32 Fz,.int .u32 GM,.int .u8 0,.int .u16 0,.int .u16 0,.int .u16 0,.slice none 0 0,.slice none 0 0]) ?_ 4 _ rfl;(with_reducible repeat (first|refine aH ?_ _|refine az ?_|refine aG ?_ _));refine bH (cs:= #[.int .u16 DI,.int .u16 EG,.int .u32 Fz,.int .u32 0,.int .u8 0,.int .u16 0,.int .u16 0,.int .u16 0,.slice none 0 0,.slice none 0 0]) ?_ 3 _ rfl;(with_reducible repeat (first|refine aH ?_ _|refine az ?_|refine aG ?_ _));refine bH (cs:= #[.int .u16 DI,.int .u16 EG,.int .u32 0,.int .u32 0,.int .u8 0,.int .u16 0,.int .u16 0,.int .u16 0,.slice none 0 0,.slice none 0 0]) ?_ 2 _ rfl;(with_reducible repeat (first|refine aH ?_ _|refine az ?_|refine aG ?_ _));refine bH (cs:= #[.int .u16 DI,.int .u16 0,.int .u32 0,.int .u32 0,.int .u8 0,.int .u16 0,.int .u16 0,.int .u16 0,.slice none 0 0,.slice none 0 0]) ?_ 1 _ rfl;(with_reducible repeat (first|refine aH ?_ _|refine az ?_|refine aG ?_ _));refine bH (cs:= #[.int .u16 0,.int .u16 0,.int .u32 0,.int .u32 0,.int .u8 0,.int .u16 0,.int .u16 0,.int .u16 0,.slice none 0 0,.slice none 0 0]) ?_ 0 _ rfl;(with_reducible repeat (first|refine aH ?_ _|refine az ?_|refine aG ?_ _));exact fQ.out) Try.underlying137 rfl (by kernel_rfl)) rfl ?_
      exact ⟨_,_,by first|rfl|(simp [ae,af]<;>rfl)|(simp [*,ae,af]<;>rfl),by (with_reducible repeat (first|apply Kd.ik|apply Kd.gV|apply Kd.iq));exact Kd.R_mono (Kd.gB (p:=⟨gX,9,none⟩) (Kd.gB (p:=⟨gX,8,none⟩) (Kd.gB (p:=⟨gX,7,none⟩) (Kd.gB (p:=⟨gX,6,none⟩) (Kd.gB (p:=⟨gX,5,none⟩) (Kd.gB (p:=⟨gX,4,none⟩) (Kd.gB (p:=⟨gX,3,none⟩) (Kd.gB (p:=⟨gX,2,none⟩) (Kd.gB (p:=⟨gX,1,none⟩) (Kd.gB (p:=⟨gX,0,none⟩) (Kd.qY NL.out fQ.out (by decide)) (fun _ hk=>hk.2) (.int .u16 DI)) (fun _ hk=>hk.2) (.int .u16 EG)) (fun _ hk=>hk.2) (.int .u32 Fz)) (fun _ hk=>hk.2) (.int .u32 GM)) (fun _ hk=>hk.2) (.int .u8 (rd l0 13))) (fun _ hk=>hk.2) (.int .u16 I5)) (fun _ hk=>hk.2) (.int .u16 LC)) (fun _ hk=>hk.2) (.int .u16 Na)) (fun _ hk=>hk.2) (.slice SE PW.length SG)) (fun _ hk=>hk.2) (.slice AjY S9.length AjZ)) (fun _ hk=>hk.1.2),by (with_reducible repeat (first|apply Kd.ik|apply Kd.gV|apply Kd.iq));exact Kd.R_mono (Kd.gB (p:=⟨gX,9,none⟩) (Kd.gB (p:=⟨gX,8,none⟩) (Kd.gB (p:=⟨gX,7,none⟩) (Kd.gB (p:=⟨gX,6,none⟩) (Kd.gB (p:=⟨gX,5,none⟩) (Kd.gB (p:=⟨gX,4,none⟩) (Kd.gB (p:=⟨gX,3,none⟩) (Kd.gB (p:=⟨gX,2,none⟩) (Kd.gB (p:=⟨gX,1,none⟩) (Kd.gB (p:=⟨gX,0,none⟩) (Kd.qY Agp.out fQ.out (by decide)) (fun _ hk=>hk.2) (.int .u16 DI)) (fun _ hk=>hk.2) (.int .u16 EG)) (fun _ hk=>hk.2) (.int .u32 Fz)) (fun _ hk=>hk.2) (.int .u32 GM)) (fun _ hk=>hk.2) (.int .u8 (rd l0 13))) (fun _ hk=>hk.2) (.int .u16 I5)) (fun _ hk=>hk.2) (.int .u16 LC)) (fun _ hk=>hk.2) (.int .u16 Na)) (fun _ hk=>hk.2) (.slice SE PW.length SG)) (fun _ hk=>hk.2) (.slice AjY S9.length AjZ)) (fun _ hk=>hk.1.2),bz HB⟩
     ·rw [aj c16] at H
      cases H
  ·rw [aj c5] at H
   cases H
def iI.f (l0:List Int):Option (Int×Int×Int×Int×List Int×Int):=if (l0.length:Int)<8 then (some (0,0,0,0,([]:List Int),20)) else (if 0<(l0.length:Int) then (if 1<(l0.length:Int) then ((aN.f l0 2).bind fun PX=>((eu.f l0 4).bind fun Tc=>((fK.f l0 8 (l0.length:Int)).bind fun U0=>(some (rd l0 0,rd l0 1,PX,Tc,U0,0))))) else (none)) else (none))
def iI.T3:Bool×List (List Nat×List Nat):=(true,[([],[]),([0],[0]),([1],[1]),([],[]),([3],[3]),([4],[4]),([],[]),([6],[6]),([],[]),([8,7],[8]),([],[]),([],[]),([11],[11]),([10,12,9],[10,12]),([2,5,7,9,13],[2,5,7,9,13]),([14,13,0,1,2,3,4,5,6,7,8,9,10,11,12,13,14],[14]),([15,0,1,2,3,4,5,6,7,8,9,10,11,12,13,14,15],[])])
def iI.B3:List Nat:=[0,1,3,0,8,24,0,64,0,448,0,0,2048,8128,16383,32767,65535]
theorem iI.TZ:rtab .any (opsOf Try.f76 3)=iI.T3:=by kernel_rfl
theorem iI.JV:waitsOk iI.T3.2 iI.B3=true:=by kernel_rfl
theorem iI.calls (A0:Option Addr) (c0:Nat) (l0:List Int) (r1:Int) (r2:Int) (r3:Int) (r4:Int) (r5:List Int) (r6:Int) (w:World) (hr0:Kd.C (Kd.int .u8) w A0 l0.length l0) (hc0:l0.length<=c0) (h:iI.f l0=some (r1,r2,r3,r4,r5,r6)):
  Calls Try.prog 76 #[.slice A0 l0.length c0] w fun e w'=>∃ v4_:Value,e= .returned (.tuple #[.agg #[.int .u8 r1,.int .u8 r2,.int .u16 r3,.int .u32 r4,v4_],.int .i64 r6]) /\ Kd.R (Kd.int .u8) 5 w' w.heap.size (fun _=>True) v4_ r5 /\ Below w.heap.size w w':=by
 have uQ:=Try.underlying101;have HR0:=Aside0.mk hr0;have mg:=Aside0.mk hc0;clear hr0 hc0;have HB:=jy w;have H:(if (l0.length:Int)<8 then (some (0,0,0,0,([]:List Int),20)) else (if 0<(l0.length:Int) then (if 1<(l0.length:Int) then ((aN.f l0 2).bind fun PX=>((eu.f l0 4).bind fun Tc=>((fK.f l0 8 (l0.length:Int)).bind fun U0=>(some (rd l0 0,rd l0 1,PX,Tc,U0,0))))) else (none)) else (none)))=some (r1,r2,r3,r4,r5,r6):=h;clear h
 by_cases c2:(l0.length:Int)<8
 ·rw [ah c2] at H
  have nV:decide ((l0.length:Int)<8)=true:=bJ c2;have qQ:decide (l0.length<8)=true:=bJ (by omega);clear c2;simp only [Option.some.injEq,Prod.mk.injEq] at H
  obtain ⟨rfl,rfl,rfl,rfl,rfl,rfl⟩:=H
  go_enter Try.func76,Try.ntmps76
  go_wp2_with (first|((with_reducible refine gate_dst (N:=2) rfl ?_);refine box_event ?hg (N:=2) ?hd (cs:= #[.int .u8 0,.int .u8 0,.int .u16 0,.int .u32 0,.slice none 0 0]) (t:=101) ?hr ?_;(case hd=>rfl);(case hg=>rfl);(case hr=>first|(go_simp;done)|(go_simp;rfl));intro qM hg w3 hbox hb;have ay:=Aside0.mk (ag (bz HB) hb);have aC:=Aside0.mk (hbox);have bg:=Aside0.mk ((by rw [hg];exact (below_size (bz HB)):w.heap.size<=qM));have dm:=Aside0.mk ((by rw [hg];exact (below_size (bz HB)):w.heap.size<=qM));clear HB;have HB:=ay;have sS:=aC;have uH:=bg;have Api:=dm;clear ay aC bg dm;clear hb hbox hg;have vK:w3.cell? ⟨qM,0,none⟩=some (.int .u8 0):=cz sS.out 0 rfl;have vM:w3.cell? ⟨qM,1,none⟩=some (.int .u8 0):=cz sS.out 1 rfl;have vN:w3.cell? ⟨qM,2,none⟩=some (.int .u16 0):=cz sS.out 2 rfl;have vO:w3.cell? ⟨qM,3,none⟩=some (.int .u32 0):=cz sS.out 3 rfl;have zU:w3.cell? ⟨qM,4,none⟩=some (.slice none 0 0):=cz sS.out 4 rfl;have vP:=blk_frozen sS.out 0;have vS:=blk_frozen sS.out 1;have vT:=blk_frozen sS.out 2;have vU:=blk_frozen sS.out 3;have zV:=blk_frozen sS.out 4))
  refine bodyPost_ret (iJ rfl _ _ qM 101 #[.int .u8 0,.int .u8 0,.int .u16 0,.int .u32 0,.slice none 0 0] (0,0) _ rfl (by (repeat (first|with_reducible refine aH ?_ _|with_reducible refine az ?_|with_reducible refine aG ?_ _|refine bH (cs:= #[.int .u8 0,.int .u8 0,.int .u16 0,.int .u32 0,.slice none 0 0]) ?_ _ _ rfl));(with_reducible repeat (first|refine aH ?_ _|refine az ?_|refine aG ?_ _));exact sS.out) Try.underlying101 rfl (by kernel_rfl)) rfl ?_;exact ⟨_,by first|rfl|(simp [ae,af]<;>rfl)|(simp [*,ae,af]<;>rfl),by first|exact Kd.bV _ _ _ _ _|exact Kd.lV _ _ _ _ _|exact Kd.lW _ _ _ _ _|exact Kd.lT _ _ _ _ _|exact Kd.lU _ _ _ _ _,bz HB⟩
 ·rw [aj c2] at H
  have nV:decide ((l0.length:Int)<8)=false:=jC c2;have qQ:decide (l0.length<8)=false:=jC (by omega);clear c2
  by_cases c5:0<(l0.length:Int)
  ·rw [ah c5] at H
   have qR:decide (0<(l0.length:Int))=true:=bJ c5;have wO:decide (0<l0.length)=true:=bJ (by omega);clear c5
   by_cases c6:1<(l0.length:Int)
   ·rw [ah c6] at H
    have yY:decide (1<(l0.length:Int))=true:=bJ c6;have Xp:decide (1<l0.length)=true:=bJ (by omega);clear c6;replace H:=dM H;obtain ⟨PX,Iq,H⟩:=H
    (try dsimp -simprocs only at H)
    have A7:=Aside0.mk Iq;clear Iq;replace H:=dM H;obtain ⟨Tc,Sm,H⟩:=H
    (try dsimp -simprocs only at H)
    have A8:=Aside0.mk Sm;clear Sm;replace H:=dM H;obtain ⟨U0,A90,H⟩:=H
    (try dsimp -simprocs only at H)
    have A9:=Aside0.mk A90;clear A90;simp only [Option.some.injEq,Prod.mk.injEq] at H
    obtain ⟨rfl,rfl,rfl,rfl,rfl,rfl⟩:=H
    go_enter Try.func76,Try.ntmps76
    try go_wp2_with (first|((with_reducible refine gate_dst (N:=2) rfl ?_);refine box_event ?hg (N:=2) ?hd (cs:= #[.int .u8 0,.int .u8 0,.int .u16 0,.int .u32 0,.slice none 0 0]) (t:=101) ?hr ?_;(case hd=>rfl);(case hg=>rfl);(case hr=>first|(go_simp;done)|(go_simp;rfl));intro qM hg w10 hbox hb;have ay:=Aside0.mk (ag (bz HB) hb);have aC:=Aside0.mk (hbox);have bg:=Aside0.mk ((by rw [hg];exact (below_size (bz HB)):w.heap.size<=qM));have dm:=Aside0.mk ((by rw [hg];exact (below_size (bz HB)):w.heap.size<=qM));clear HB;have HB:=ay;have sS:=aC;have uH:=bg;have Api:=dm;clear ay aC bg dm;clear hb hbox hg))
    have ay:=Aside0.mk (az sS.out);have aC:=Aside0.mk (below_drew1 HB.out);clear sS;clear HB;have sS:=ay;have HB:=aC;clear ay aC;have Aj0:0<=(0:Int):=(by omega)
    have Aj1:0<(l0.length:Int):=je;obtain ⟨LH,Avn,BK⟩:=Kd.dU HR0.out 0 Aj0 Aj1;have nC:=BK
    (try rw [show ((0:Int)).toNat=0 from rfl] at nC)
    (try rw [show 0*1=0 from rfl] at nC)
    (try rw [Addr.add_zero'] at nC)
    cases Avn
    have Ax9:(0<l0.length)=True:=eq_true (by omega)
    (try rw [show ((0:Int)).toNat=0 from rfl] at BK)
    (try rw [Addr.add_zero'] at BK)
    replace BK:=(HB.out.cell (dS w _ BK)).trans BK;replace Aj0:=eq_true Aj0;replace Aj1:=eq_true Aj1;have Aj2:0<=(1:Int):=(by omega)
    have Aj3:1<(l0.length:Int):=je;obtain ⟨Apj,Avo,BL⟩:=Kd.dU HR0.out 1 Aj2 Aj3;have nD:=BL
    (try rw [show ((1:Int)).toNat=1 from rfl] at nD)
    (try rw [show 1*1=1 from rfl] at nD)
    (try simp only [Nat.reduceMul,Nat.reduceEqDiff,Go.Addr.add,↓reduceIte] at nD)
    obtain rfl:LH=Apj:=(by injection Avo)
    (try simp only [show (1:Int).toNat=1 from rfl,Nat.reduceMul,Nat.reduceEqDiff,Go.Addr.add,↓reduceIte] at BL)
    have Aya:(1<l0.length)=True:=eq_true (by omega)
    (try rw [show ((1:Int)).toNat=1 from rfl] at BL)
    replace BL:=(HB.out.cell (dS w _ BL)).trans BL;replace Aj2:=eq_true Aj2;replace Aj3:=eq_true Aj3;refine start_ (n:=17) (S:=fun w'=>w'.cell? LH=some (.int .u8 (rd l0 0)) /\ w'.cell? ⟨LH.block,LH.off+1,none⟩=some (.int .u8 (rd l0 1))) (ds:=[]) #[false,false,false,false,false,false,false,false,false,false,false,false,false,false,false,false,false] (by kernel_rfl) rfl rfl ⟨((HB.out.cell (dS w _ nC)).trans nC),((HB.out.cell (dS w _ nD)).trans nD)⟩ (fun hHeld=> ?_);refine with_tabW iI.TZ iI.JV (fun HT_ HW_=> ?_);generalize w10.drew=w11 at sS HB BK BL hHeld|-
    refine pz 0 8 HT_ ?_;refine pz 1 9 HT_ ?_;refine pz 3 11 HT_ ?_;refine pz 4 12 HT_ ?_;refine pz 6 14 HT_ ?_;refine pz 8 16 HT_ ?_;refine pz 10 18 HT_ ?_;refine pz 11 19 HT_ ?_;refine pz 12 20 HT_ ?_;refine take_ (i:=2) (N:=some 10) (v:= ?_) (a':= ?_) #[true,true,true,true,true,false,true,false,true,false,true,true,true,false,false,false,false] rfl rfl (take_ofW HT_.out HW_.out (by kernel_rfl)) (fun _ _ _ h=>h) (Or.inl ⟨by rfl, ?_⟩) hHeld ?_ ?_
    rotate_left
    ·rintro w' ⟨s0,s1⟩
     go_simp
     with_reducible rfl
    rotate_left
    ·simp only [vF]
     rfl
    refine take_ (i:=5) (N:=some 13) (v:= ?_) (a':= ?_) #[true,true,true,true,true,true,true,false,true,false,true,true,true,false,false,false,false] rfl rfl (take_ofW HT_.out HW_.out (by kernel_rfl)) (fun _ _ _ h=>h) (Or.inl ⟨by rfl, ?_⟩) hHeld ?_ ?_
    rotate_left
    ·rintro w' ⟨s0,s1⟩
     go_simp
     with_reducible rfl
    rotate_left
    ·simp only [vF]
     rfl
    refine oz 7 (some 15) HT_ (fun K hK=> ?_);refine gG Try.func64 #[.slice (some LH) l0.length c0,.int .i64 2] ?_
    with_reducible refine (aN.calls _ _ l0 2 PX _ ?au ?ax A7.out).mono ?_
    (case au=>exact Kd.aJ HR0.out (bz HB))
    (case ax=>exact mg.out)
    rintro e w' ⟨rfl,⟨nd,rfl⟩⟩;refine ⟨_,rfl, ?_⟩;refine hK.out _ _ ⟨((HB.out.cell (dS w _ nC)).trans nC),((HB.out.cell (dS w _ nD)).trans nD)⟩ (fun hHeld=> ?_);clear hK K;refine nz 15 ?_;refine oz 9 (some 17) HT_ (fun K hK=> ?_);refine gG Try.func81 #[.slice (some LH) l0.length c0,.int .i64 4] ?_
    with_reducible refine (eu.calls _ _ l0 4 Tc _ ?au ?ax A8.out).mono ?_
    (case au=>exact Kd.aJ HR0.out (bz HB))
    (case ax=>exact mg.out)
    rintro e w' ⟨rfl,⟨nd,rfl⟩⟩;refine ⟨_,rfl, ?_⟩;refine hK.out _ _ ⟨((HB.out.cell (dS w _ nC)).trans nC),((HB.out.cell (dS w _ nD)).trans nD)⟩ (fun hHeld=> ?_);clear hK K;refine nz 17 ?_;refine oz 13 (some 21) HT_ (fun K hK=> ?_);refine gG Try.func65 #[.slice (some LH) l0.length c0,.int .i64 8,.int .i64 (l0.length:Int)] ?_
    with_reducible refine (fK.calls _ _ l0 8 (l0.length:Int) U0 _ ?au ?ax A9.out).mono ?_
    (case au=>exact Kd.aJ HR0.out (bz HB))
    (case ax=>exact mg.out)
    rintro e w12 ⟨AAC,rfl,ho0,hb⟩;refine ⟨_,rfl, ?_⟩;have ay:=Aside0.mk (Kd.R_lower ho0 (below_size (bz HB)));have aC:=Aside0.mk (aZ (kz sS) hb);have bg:=Aside0.mk (ag (bz HB) hb);clear sS;clear HB;have Agq:=ay;have sS:=aC;have HB:=bg;clear ay aC bg
    (try clear hb)
    (try clear hb2)
    (try clear hk)
    (try clear hi)
    (try clear ho0)
    obtain ⟨Sr,Su,UQ⟩:=Kd.dN Agq.out
    (first|subst UQ|(injection UQ with rF xE rG;have xG:=rF.symm;have xH:=rG.symm;clear rF xE rG;subst xG;subst xH))
    refine hK.out _ _ ⟨((HB.out.cell (dS w _ nC)).trans nC),((HB.out.cell (dS w _ nD)).trans nD)⟩ (fun hHeld=> ?_);clear hK K;refine nz 21 ?_;refine pz 14 22 HT_ ?_;refine oz 15 (none) HT_ (fun K hK=> ?_);have Ayb:=cs5 sS.out;have Avp:=blk_frozen sS.out;refine CJ (w1:= ?_) (by rfl) rfl ?_ ?_
    rotate_left
    ·go_simp
     rfl
    refine hK.out _ _ ⟨((cell_far (p:=⟨qM,_,none⟩) (by first|exact fU nC uH.out|exact fV nC uH.out) _).trans (((cell_far (p:=⟨qM,_,none⟩) (by first|exact fU nC uH.out|exact fV nC uH.out) _).trans (((cell_far (p:=⟨qM,_,none⟩) (by first|exact fU nC uH.out|exact fV nC uH.out) _).trans (((cell_far (p:=⟨qM,_,none⟩) (by first|exact fU nC uH.out|exact fV nC uH.out) _).trans (((cell_far (p:=⟨qM,_,none⟩) (by first|exact fU nC uH.out|exact fV nC uH.out) _).trans (hHeld.1)))))))))),((cell_far (p:=⟨qM,_,none⟩) (by first|exact fU nD uH.out|exact fV nD uH.out) _).trans (((cell_far (p:=⟨qM,_,none⟩) (by first|exact fU nD uH.out|exact fV nD uH.out) _).trans (((cell_far (p:=⟨qM,_,none⟩) (by first|exact fU nD uH.out|exact fV nD uH.out) _).trans (((cell_far (p:=⟨qM,_,none⟩) (by first|exact fU nD uH.out|exact fV nD uH.out) _).trans (((cell_far (p:=⟨qM,_,none⟩) (by first|exact fU nD uH.out|exact fV nD uH.out) _).trans (hHeld.2))))))))))⟩ (fun hHeld=> ?_)
    clear hK K;refine pz 16 3 HT_ ?_;refine dz HT_ ?_
    try go_wp2
    refine bodyPost_ret (iJ rfl _ _ qM 101 #[.int .u8 (rd l0 0),.int .u8 (rd l0 1),.int .u16 PX,.int .u32 Tc,.slice Sr U0.length Su] (0,0) _ rfl (by (with_reducible repeat (first|refine aH ?_ _|refine az ?_|refine aG ?_ _));refine bH (cs:= #[.int .u8 (rd l0 0),.int .u8 (rd l0 1),.int .u16 PX,.int .u32 Tc,.slice none 0 0]) ?_ 4 _ rfl;(with_reducible repeat (first|refine aH ?_ _|refine az ?_|refine aG ?_ _));refine bH (cs:= #[.int .u8 (rd l0 0),.int .u8 (rd l0 1),.int .u16 PX,.int .u32 0,.slice none 0 0]) ?_ 3 _ rfl;(with_reducible repeat (first|refine aH ?_ _|refine az ?_|refine aG ?_ _));refine bH (cs:= #[.int .u8 (rd l0 0),.int .u8 (rd l0 1),.int .u16 0,.int .u32 0,.slice none 0 0]) ?_ 2 _ rfl;(with_reducible repeat (first|refine aH ?_ _|refine az ?_|refine aG ?_ _));refine bH (cs:= #[.int .u8 (rd l0 0),.int .u8 0,.int .u16 0,.int .u32 0,.slice none 0 0]) ?_ 1 _ rfl;(with_reducible repeat (first|refine aH ?_ _|refine az ?_|refine aG ?_ _));refine bH (cs:= #[.int .u8 0,.int .u8 0,.int .u16 0,.int .u32 0,.slice none 0 0]) ?_ 0 _ rfl;(with_reducible repeat (first|refine aH ?_ _|refine az ?_|refine aG ?_ _));exact sS.out) Try.underlying101 rfl (by kernel_rfl)) rfl ?_
    exact ⟨_,by first|rfl|(simp [ae,af]<;>rfl)|(simp [*,ae,af]<;>rfl),by (with_reducible repeat (first|apply Kd.ik|apply Kd.gV|apply Kd.iq));exact Kd.R_mono (Kd.gB (p:=⟨qM,4,none⟩) (Kd.gB (p:=⟨qM,3,none⟩) (Kd.gB (p:=⟨qM,2,none⟩) (Kd.gB (p:=⟨qM,1,none⟩) (Kd.gB (p:=⟨qM,0,none⟩) (Kd.qY Agq.out sS.out (by decide)) (fun _ hk=>hk.2) (.int .u8 (rd l0 0))) (fun _ hk=>hk.2) (.int .u8 (rd l0 1))) (fun _ hk=>hk.2) (.int .u16 PX)) (fun _ hk=>hk.2) (.int .u32 Tc)) (fun _ hk=>hk.2) (.slice Sr U0.length Su)) (fun _ hk=>trivial),bz HB⟩
   ·rw [aj c6] at H
    cases H
  ·rw [aj c5] at H
   cases H
attribute [local go_sem] dV dW gI gJ dG dH dX dY
def qN.f (l0:List Int) (l1:List Int):Option (Bool):=some ((strOfNums l0).toList==(strOfNums l1).toList)
theorem qN.calls (A0:Option Addr) (c0:Nat) (l0:List Int) (A1:Option Addr) (c1:Nat) (l1:List Int) (r:Bool) (w:World) (hr0:Kd.C (Kd.int .u8) w A0 l0.length l0) (hc0:l0.length<=c0) (hr1:Kd.C (Kd.int .u8) w A1 l1.length l1) (hc1:l1.length<=c1) (h:qN.f l0 l1=some r):
  Calls Try.prog 22 #[.slice A0 l0.length c0,.slice A1 l1.length c1] w fun e w'=>e= .returned (.bool r) /\ bf w w':=by
 have HR0:=Aside0.mk hr0;have mg:=Aside0.mk hc0;clear hr0 hc0;have HR1:=Aside0.mk hr1;have VJ:=Aside0.mk hc1;clear hr1 hc1;have H:(some ((strOfNums l0).toList==(strOfNums l1).toList))=some r:=h;clear h;obtain rfl:=eF H;have AAD:=Kd.Qh (P:=Try.prog) (A:=A0) (c:=c0) Try.underlying23 Try.underlying5 Try.underlying9 HR0.out;have AAE:=Kd.Qh (P:=Try.prog) (A:=A1) (c:=c1) Try.underlying23 Try.underlying5 Try.underlying9 HR1.out
 go_enter Try.func22,Try.ntmps22
 go_wp2
 go_ret
 exact ⟨by first|rfl|(simp;done)|(simp [*];done),by repeat (first|exact bf.refl _|apply bf.step)⟩
end Go.Proofs.Ytkmimamminddiaa.PB
namespace Go.Proofs.Ytkmimamminddiaa.Spec
open Go.RowKit
def jX (l:List Int):Prop:=∀ x ∈ l,0<=x /\ x<=255
def IsW (l:List Int):Prop:=∀ x ∈ l,0<=x /\ x<=65535
theorem jX.nil:jX []:=fun _ h=>by simp at h
theorem jX.cons {a:Int} {l:List Int} (h:0<=a /\ a<=255) (hl:jX l):jX (a::l):=fun x hx=>by
 rcases List.mem_cons.1 hx with rfl|hx
 ·exact h
 ·exact hl _ hx
theorem jX.append {l m:List Int} (h:jX l) (hm:jX m):jX (l++m):=fun x hx=>by
 rcases List.mem_append.1 hx with hx|hx
 ·exact h _ hx
 ·exact hm _ hx
theorem jX.left {l m:List Int} (h:jX (l++m)):jX l:=fun x hx=>h x (List.mem_append.2 (.inl hx))
theorem jX.right {l m:List Int} (h:jX (l++m)):jX m:=fun x hx=>h x (List.mem_append.2 (.inr hx))
theorem jX.take {l:List Int} (h:jX l) (n:Nat):jX (l.take n):=fun x hx=>h x (List.mem_of_mem_take hx)
theorem jX.drop {l:List Int} (h:jX l) (n:Nat):jX (l.drop n):=fun x hx=>h x (List.mem_of_mem_drop hx)
theorem jX.set {l:List Int} (h:jX l) (i:Nat) {v:Int} (hv:0<=v /\ v<=255):jX (l.set i v):=fun x hx=>by
 rcases List.mem_or_eq_of_mem_set hx with hx|rfl
 ·exact h _ hx
 ·exact hv
theorem jX.replicate (n:Nat):jX (List.replicate n 0):=fun x hx=>by
 have:=List.eq_of_mem_replicate hx
 omega
theorem jX.getD {l:List Int} (h:jX l) (i:Nat):0<=l.getD i 0 /\ l.getD i 0<=255:=by
 rw [List.getD_eq_getElem?_getD]
 rcases Nat.lt_or_ge i l.length with hi|hi
 ·rw [List.getElem?_eq_getElem hi]
  exact h _ (List.getElem_mem hi)
 ·rw [List.getElem?_eq_none hi]
  simp
def words:List Int ->List Int
 |[]=>[]
 |[a]=>[a*256]
 |a::b::t=>(a*256+b)::words t
theorem iW:∀ l:List Int,jX l ->IsW (words l)
 |[],_=>fun _ h=>by simp [words] at h
 |[a],h=>fun x hx=>by
  have:=h a (by simp)
  simp [words] at hx
  omega
 |a::b::t,h=>fun x hx=>by
  have ha:=h a (by simp);have hb:=h b (by simp);have ht:jX t:=fun y hy=>h y (by simp [hy])
  rcases List.mem_cons.1 (show x ∈ (a*256+b)::words t from hx) with rfl|hx
  ·omega
  ·exact iW t ht _ hx
theorem qo:∀ l:List Int,(words l).length=(l.length+1) / 2
 |[]=>rfl
 |[_]=>by simp [words]
 |a::b::t=>by
  have:=qo t;simp only [words,List.length_cons,this]
  omega
theorem NM:∀ (l:List Int) (j:Nat),2*j<l.length ->(words l)[j]?=some (l.getD (2*j) 0*256+l.getD (2*j+1) 0)
 |[],j,h=>by simp at h
 |[a],j,h=>by
  have:j=0:=by simp at h;omega
  subst this
  simp [words]
 |a::b::t,0,_=>by simp [words]
 |a::b::t,j+1,h=>by
  have:=NM t j (by simp only [List.length_cons] at h;omega);simp only [words,List.getElem?_cons_succ,this];rw [show 2*(j+1)=2*j+1+1 from by omega]
  simp
def Cm (s x:Int):Int:=if s+x>4294967295 then s+x - 4294967295 else s+x
def LJ (s:Int) (ws:List Int):Int:=ws.foldl Cm s
def norm (n:Int):Int:=if n=0 then 0 else (n - 1) % 65535+1
def uI:List Int ->Int
 |[]=>0
 |x::t=>x+uI t
theorem sU:∀ l:List Int,IsW l ->0<=uI l
 |[],_=>by simp [uI]
 |x::t,h=>by
  have:=sU t (fun y hy=>h y (by simp [hy]));have:=h x (by simp);simp only [uI];omega
theorem mM (n:Int) (h:0<=n):0<=norm n /\ norm n<=65535:=by unfold norm;split<;>omega
theorem LM {n:Int} (h0:0<=n) (h:n<=65535):norm n=n:=by unfold norm;split<;>omega
theorem BM {s x:Int} (h0:0<=s) (h1:s<=4294967295) (hx:0<=x /\ x<=65535):0<=Cm s x /\ Cm s x<=4294967295:=by
 unfold Cm;split<;>omega
theorem X4 {s x r:Int} (h0:0<=s) (h1:s<=4294967295) (hx:0<=x /\ x<=65535) (hr:0<=r):norm (Cm s x+r)=norm (s+x+r):=by
 unfold Cm norm
 split
 ·rw [aj (by omega),aj (by omega)];omega
 ·rfl
theorem qA:∀ (ws:List Int) (s:Int),0<=s ->s<=4294967295 ->IsW ws ->0<=LJ s ws /\ LJ s ws<=4294967295
 |[],s,h0,h1,_=>⟨h0,h1⟩
 |x::t,s,h0,h1,hw=>by
  have hx:=BM h0 h1 (hw x (by simp));exact qA t (Cm s x) hx.1 hx.2 (fun y hy=>hw y (by simp [hy]))
theorem NP:∀ (ws:List Int) (s r:Int),0<=s ->s<=4294967295 ->IsW ws ->0<=r ->norm (LJ s ws+r)=norm (s+uI ws+r)
 |[],s,r,h0,h1,_,hr=>by simp [LJ,uI]
 |x::t,s,r,h0,h1,hw,hr=>by
  have hx:=BM h0 h1 (hw x (by simp));have ht:IsW t:=fun y hy=>hw y (by simp [hy])
  have e:=NP t (Cm s x) r hx.1 hx.2 ht hr;have hi:=sU t ht;have e2:=X4 (r:=uI t+r) h0 h1 (hw x (by simp)) (by omega)
  show norm (LJ (Cm s x) t+r)=norm (s+(x+uI t)+r)
  rw [e,show Cm s x+uI t+r=Cm s x+(uI t+r) from by omega,e2]
  congr 1;omega
theorem uk (ws:List Int) (s:Int) (h0:0<=s) (h1:s<=4294967295) (hw:IsW ws):norm (LJ s ws)=norm (s+uI ws):=by
 have:=NP ws s 0 h0 h1 hw (by omega)
 simpa using this
def ck (l:List Int):Int:=65535 - norm (uI (words l))
theorem wraps_u16 (n:Int) (h₀:0<=n) (h₁:n<2 ^ 16):IntKind.u16.wrap n=n:=by rw [IntKind.wrap_u16];omega
theorem wraps_u32 (n:Int) (h₀:0<=n) (h₁:n<2 ^ 32):IntKind.u32.wrap n=n:=by rw [IntKind.wrap_u32];omega
theorem FB {n:Int} (h₀:0<=n) (h₁:n<=65535):IntKind.u16.wrap n=n:=wraps_u16 n h₀ (by omega)
theorem Td {n:Int} (h₀:0<=n) (h₁:n<=18446744073709551615):IntKind.u64.wrap n=n:=by rw [IntKind.wrap_u64];omega
theorem AbB (i:Nat) (hi:i<=8) {x:Int} (h₀:0<=x) (h₁:x<=255):Go.bits .and .u8 x (2 ^ i - 1)=x % 2 ^ i:=bits_mask .u8 8 (by decide) wraps_u8 i hi x h₀ (by omega)
theorem Ael (i:Nat) (hi:i<=32) {x:Int} (h₀:0<=x) (h₁:x<=4294967295):Go.bits .and .u32 x (2 ^ i - 1)=x % 2 ^ i:=bits_mask .u32 32 (by decide) wraps_u32 i hi x h₀ (by omega)
theorem Apk (i:Nat) {x y:Int} (hx₀:0<=x) (hx:x % 2 ^ i=0) (hx₁:x<=255) (hy₀:0<=y) (hy:y<2 ^ i) (hy₁:y<=255):Go.bits .or .u8 x y=x+y:=bits_join .u8 8 (by decide) wraps_u8 i x y hx₀ hx (by omega) hy₀ hy (by omega)
theorem AbC (i:Nat) {x y:Int} (hx₀:0<=x) (hx:x % 2 ^ i=0) (hx₁:x<=65535) (hy₀:0<=y) (hy:y<2 ^ i) (hy₁:y<=65535):Go.bits .or .u16 x y=x+y:=bits_join .u16 16 (by decide) wraps_u16 i x y hx₀ hx (by omega) hy₀ hy (by omega)
theorem PY (i:Nat) {x y:Int} (hx₀:0<=x) (hx:x % 2 ^ i=0) (hx₁:x<=4294967295) (hy₀:0<=y) (hy:y<2 ^ i) (hy₁:y<=4294967295):Go.bits .or .u32 x y=x+y:=bits_join .u32 32 (by decide) wraps_u32 i x y hx₀ hx (by omega) hy₀ hy (by omega)
theorem yI {x:Int} (h₀:0<=x) (h₁:x<=4294967295):Go.bits .and .u32 x 65535=x % 65536:=Ael 16 (by decide) h₀ h₁
theorem U1 {a b:Int} (ha:0<=a /\ a<=255) (hb:0<=b /\ b<=255):Go.bits .or .u16 (a*256) b=a*256+b:=AbC 8 (by omega) (by omega) (by omega) (by omega) (by omega) (by omega)
theorem JE {x:Int} (h₀:0<=x) (h₁:x<=65535):Go.bits .xor .u16 65535 x=65535 - x:=by
 obtain ⟨a,rfl⟩:=Int.eq_ofNat_of_zero_le h₀;have ha:a<65536:=by omega
 rw [show (65535:Int)=((65535:Nat):Int) from rfl,Go.u16_xor_nat 65535 a (by decide) ha]
 have:(65535 ^^^ a:Nat)=65535 - a:=by
  have h1:=BitVec.toNat_not (x:=BitVec.ofNat 16 a)
  have h2:(~~~ (BitVec.ofNat 16 a))=BitVec.ofNat 16 65535 ^^^ BitVec.ofNat 16 a:=by
   rw [show BitVec.ofNat 16 65535=BitVec.allOnes 16 from rfl,BitVec.allOnes_xor]
  rw [h2,BitVec.toNat_xor,BitVec.toNat_ofNat,BitVec.toNat_ofNat,Nat.mod_eq_of_lt (show 65535<2 ^ 16 from by decide),Nat.mod_eq_of_lt (show a<2 ^ 16 from ha)] at h1
  rw [h1]
 rw [this]
 omega
theorem bQ {n:Int} (h₀: -9223372036854775808<=n) (h₁:n<=9223372036854775807):wrap64 n=n:=by unfold wrap64;omega
theorem stands {S:Int} (h:0<=S):norm (S+(65535 - norm S))=65535:=by
 unfold norm
 split
 ·rw [aj (by omega)];omega
 ·rw [aj (by omega)];omega
end Go.Proofs.Ytkmimamminddiaa.Spec
namespace Go.Proofs.Ytkmimamminddiaa.BytesEq
open Go.RowKit Go.Proofs.Ytkmimamminddiaa.PB Go.Proofs.YtkmimamminddiaaW.PrintWords Go.Proofs.YtkmimamminddiaaW.PrintLast Go.Proofs.Ytkmimamminddiaa.Spec
theorem jR (l:List Int) (i:Int) (j:Nat) (h:i=(j:Int)):rd l i=l.getD j 0:=by subst h;simp [rd]
theorem PZ (l:List Int) (a b:Nat) (i:Int) (j:Nat) (h:i=(j:Int)) (hb:a+j<b):rd ((l.take b).drop a) i=l.getD (a+j) 0:=by
 rw [jR _ _ j h,List.getD_eq_getElem?_getD,List.getElem?_drop,List.getElem?_take_of_lt hb,List.getD_eq_getElem?_getD]
theorem WR {x:Int} (h:(Lit.int .u8 x).wf=true):0<=x /\ x<=255:=by
 simp [Lit.wf,IntKind.min,IntKind.max,IntKind.bits,IntKind.signed] at h;omega
theorem Aj4 {l:List Int} (h:∀ x ∈ l,(Lit.int .u8 x).wf=true):jX l:=fun x hx=>WR (h x hx)
def g16 (l:List Int) (i:Nat):Int:=l.getD i 0*256+l.getD (i+1) 0
def yD (l:List Int) (i:Nat):Int:=g16 l i*65536+g16 l (i+2)
theorem iY {l:List Int} (h:jX l) (i:Nat):0<=g16 l i /\ g16 l i<=65535:=by
 have h1:=h.getD i;have h2:=h.getD (i+1);unfold g16;omega
theorem Au {l:List Int} (h:jX l) (i:Nat):0<=yD l i /\ yD l i<=4294967295:=by
 have h1:=iY h i;have h2:=iY h (i+2);unfold yD;omega
theorem LP {a b:Int} (ha:0<=a /\ a<=255) (hb:0<=b /\ b<=255):Go.bits .or .u16 (IntKind.u16.wrap ((IntKind.u16.wrap a)*256)) (IntKind.u16.wrap b)=a*256+b:=by
 rw [FB (n:=a) (by omega) (by omega),FB (n:=a*256) (by omega) (by omega),FB (n:=b) (by omega) (by omega),U1 ha hb]
theorem U2 {a b:Int} (ha:0<=a /\ a<=65535) (hb:0<=b /\ b<=65535):Go.bits .or .u32 (((a % 4294967296)*65536) % 4294967296) (b % 4294967296)=a*65536+b:=by
 rw [show a % 4294967296=a from by omega,show (a*65536) % 4294967296=a*65536 from by omega,show b % 4294967296=b from by omega];exact PY 16 (by omega) (by omega) (by omega) (by omega) (by omega) (by omega)
theorem kG {l:List Int} (h:jX l) (i:Nat) (hi:i+2<=l.length) (hl:l.length<=1000000000):aN.f l (i:Int)=some (g16 l i):=by
 unfold aN.f;have e:wrap64 ((i:Int)+1)=((i+1:Nat):Int):=by rw [bQ (by omega) (by omega)];omega
 rw [e,ah (by omega),ah (by omega),ah (by omega),ah (by omega),jR l _ i rfl,jR l _ (i+1) rfl,LP (h.getD i) (h.getD (i+1))]
 rfl
theorem H9 (l:List Int) (a b:Nat) (h1:a<=b) (h2:b<=l.length) (hl:l.length<=1000000000):fK.f l (a:Int) (b:Int)=some ((l.take b).drop a):=by
 unfold fK.f;have hlen:((l.take b).drop a).length<=l.length:=by rw [List.length_drop,List.length_take];omega
 rw [ah (by omega),ah (by omega),ah (by omega)];simp only [Int.toNat_natCast,List.length_nil,Nat.zero_add,List.nil_append];rw [ah (by omega)]
theorem GR (l:List Int) (hl:l.length<=1000000000):dh.f l=some l:=by
 unfold dh.f;rw [ah (by omega)]
theorem LQ (l:List Int):qN.f l l=some true:=by
 unfold qN.f
 simp
theorem xq {l:List Int} (h:jX l) (i:Nat) (hi:i+4<=l.length) (hl:l.length<=1000000000):eu.f l (i:Int)=some (yD l i):=by
 unfold eu.f;have e:wrap64 ((i:Int)+2)=((i+2:Nat):Int):=by rw [bQ (by omega) (by omega)];omega
 rw [e,kG h i (by omega) hl,kG h (i+2) (by omega) hl];simp only [bG];rw [U2 (iY h i) (iY h (i+2))]
 rfl
end Go.Proofs.Ytkmimamminddiaa.BytesEq
namespace Go.Proofs.Ytkmimamminddiaa.Pure
open Go.RowKit Go.Proofs.Ytkmimamminddiaa.PB Go.Proofs.YtkmimamminddiaaW.PrintWords Go.Proofs.YtkmimamminddiaaW.PrintLast
open Go.Proofs.Ytkmimamminddiaa.Spec Go.Proofs.Ytkmimamminddiaa.BytesEq
theorem BN {l:List Int} (h:jX l) (a b:Nat) (hab:b=a+2) (hb:b<=l.length):oQ.f ((l.take b).drop a)=some (g16 l a):=by
 subst hab;unfold oQ.f;have hlen:((l.take (a+2)).drop a).length=2:=by rw [List.length_drop,List.length_take];omega
 rw [hlen,ah (by omega),ah (by omega),PZ l a (a+2) 0 0 rfl (by omega),PZ l a (a+2) 1 1 rfl (by omega),LP (h.getD (a+0)) (h.getD (a+1))]
 rfl
theorem AbD (l:List Int) (a b c d:Nat) (h:a+d<=b):(((l.take b).drop a).take d).drop c=(l.take (a+d)).drop (a+c):=by
 rw [List.take_drop,List.take_take,List.drop_drop,Nat.min_eq_left h]
theorem Tf {l:List Int} (h:jX l) (a b:Nat) (hab:b=a+4) (hb:b<=l.length):vJ.f ((l.take b).drop a)=some (yD l a):=by
 subst hab;unfold vJ.f;have hlen:((l.take (a+4)).drop a).length=4:=by rw [List.length_drop,List.length_take];omega
 rw [hlen,ah (by omega),AbD l a (a+4) 0 2 (by omega),AbD l a (a+4) 2 4 (by omega),BN h (a+0) (a+2) (by omega) (by omega),BN h (a+2) (a+4) (by omega) (by omega)];simp only [bG];rw [U2 (iY h (a+0)) (iY h (a+2))]
 rfl
def X5 (l:List Int):Int×Int×Int×Int×Int×Int×Int×Int×List Int×List Int×Int:=
 if l.length<20 then (0,0,0,0,0,0,0,0,[],[],20) else if 4*(l.getD 12 0 / 16)<20 then (0,0,0,0,0,0,0,0,[],[],21) else if (l.length:Int)<4*(l.getD 12 0 / 16) then (0,0,0,0,0,0,0,0,[],[],20) else
 (g16 l 0,g16 l 2,yD l 4,yD l 8,l.getD 13 0,g16 l 14,g16 l 16,g16 l 18,(l.take (4*(l.getD 12 0 / 16)).toNat).drop 20,l.drop (4*(l.getD 12 0 / 16)).toNat,0)
theorem X6 {l:List Int} (h:jX l) (hl:l.length<=1000000000):tZ.f l=some (X5 l):=by
 unfold tZ.f X5
 by_cases h8:l.length<20
 ·rw [ah (by omega),ah h8]
 ·have hg:=h.getD 12
  rw [aj (by omega),aj h8,ah (by omega),jR l 12 12 rfl,jR l 13 13 rfl];obtain ⟨m,hm⟩:∃ m:Int,m=4*(l.getD 12 0 / 16):=⟨_,rfl⟩
  have hw:wrap64 (4*(wrap64 (l.getD 12 0 / 16)))=m:=by rw [bQ (n:=l.getD 12 0 / 16) (by omega) (by omega),bQ (by omega) (by omega),hm]
  rw [hw,<- hm]
  by_cases c1:m<20
  ·rw [ah c1,ah c1]
  ·rw [aj c1,aj c1]
   by_cases c2:(l.length:Int)<m
   ·rw [ah c2,ah c2]
   ·rw [aj c2,aj c2,ah (by omega),BN h 0 2 rfl (by omega),bG,ah (by omega),BN h 2 4 rfl (by omega),bG,ah (by omega),Tf h 4 8 rfl (by omega),bG,ah (by omega),Tf h 8 12 rfl (by omega),bG,ah (by omega),ah (by omega),BN h 14 16 rfl (by omega),bG,ah (by omega),BN h 16 18 rfl (by omega),bG,ah (by omega),BN h 18 20 rfl (by omega),bG,ah (by omega),ah (by omega),GR _ (by rw [List.length_drop,List.length_take];omega),bG,ah (by omega),GR _ (by rw [List.length_drop];omega),bG]
theorem U3 {l:List Int} (h:jX l) (hl:l.length<=1000000000):jI.f l=some (X5 l):=by
 unfold jI.f X5
 by_cases h8:l.length<20
 ·rw [ah (by omega),ah h8]
 ·have hg:=h.getD 12
  rw [aj (by omega),aj h8,ah (by omega),jR l 12 12 rfl,jR l 13 13 rfl];obtain ⟨m,hm⟩:∃ m:Int,m=4*(l.getD 12 0 / 16):=⟨_,rfl⟩
  have hw:wrap64 ((wrap64 (l.getD 12 0 / 16))*4)=m:=by rw [bQ (n:=l.getD 12 0 / 16) (by omega) (by omega),bQ (by omega) (by omega),hm];omega
  rw [hw,<- hm];have e0:=kG h 0 (by omega) hl;have e2:=kG h 2 (by omega) hl;have e4:=xq h 4 (by omega) hl;have e8:=xq h 8 (by omega) hl;have e14:=kG h 14 (by omega) hl;have e16:=kG h 16 (by omega) hl;have e18:=kG h 18 (by omega) hl;rw [show ((0:Nat):Int)=0 from rfl] at e0
  rw [show ((2:Nat):Int)=2 from rfl] at e2
  rw [show ((4:Nat):Int)=4 from rfl] at e4
  rw [show ((8:Nat):Int)=8 from rfl] at e8
  rw [show ((14:Nat):Int)=14 from rfl] at e14
  rw [show ((16:Nat):Int)=16 from rfl] at e16
  rw [show ((18:Nat):Int)=18 from rfl] at e18
  by_cases c1:m<20
  ·rw [ah c1,ah c1]
  ·rw [aj c1,aj c1]
   by_cases c2:(l.length:Int)<m
   ·rw [ah c2,ah c2]
   ·have f1:=H9 l 20 m.toNat (by omega) (by omega) hl
    have f2:=H9 l m.toNat l.length (by omega) (by omega) hl;rw [show ((20:Nat):Int)=20 from rfl,Int.toNat_of_nonneg (by omega)] at f1
    rw [List.take_length,Int.toNat_of_nonneg (by omega)] at f2
    rw [aj c2,aj c2,e0,bG,e2,bG,e4,bG,e8,bG,ah (by omega),e14,bG,e16,bG,e18,bG,f1,bG,f2,bG]
def WS (s d q a f w c u:Int) (o:List Int):List Int:=[s / 256 % 256,s % 256,d / 256 % 256,d % 256,q / 16777216 % 256,q / 65536 % 256,q / 256 % 256,q % 256,a / 16777216 % 256,a / 65536 % 256,a / 256 % 256,a % 256,(20+(o.length:Int)) / 4*16 % 256,f,w / 256 % 256,w % 256,c / 256 % 256,c % 256,u / 256 % 256,u % 256]
def sV (s d q a f w c u:Int) (o l:List Int):List Int:=WS s d q a f w c u o++(o++l)
def X7 (s d q a f w c u:Int) (o l:List Int):List Int×Int:=if (o.length:Int) % 4≠0 \/ (o.length:Int)>40 then ([],21) else if 20+(o.length:Int)+(l.length:Int)>65515 then ([],23) else (sV s d q a f w c u o l,0)
theorem AbE:wrap64 ((0:Int)+1)=1:=bQ (by omega) (by omega)
theorem AbF:wrap64 ((1:Int)+1)=2:=bQ (by omega) (by omega)
theorem Ags:wrap64 ((2:Int)+1)=3:=bQ (by omega) (by omega)
theorem FC {k:Nat} {x0 x9:List (List Int)} {x3 x10 x11 s i:Int} (h1:x11<x10) (h2:0<=x11) (h3:x11<(x9.length:Int)) (hs:wrap64 (x3+((wY x9 x11).length:Int))=s) (h4:0<=s) (hi:wrap64 (x11+1)=i):aT.l0 (k+1) x0 x3 x9 x10 x11=aT.l0 k x0 s x9 x10 i:=by
 rw [aT.l0,ah h1,ah h2,ah h3,hs,aj (Int.not_lt.2 h4),hi]
theorem FD {k:Nat} {x6:List Int} {x25:List (List Int)} {x26 x27 i:Int} (h1:x27<x26) (h2:0<=x27) (h3:x27<(x25.length:Int)) (h4:x6.length+(wY x25 x27).length<140737488355328) (hi:wrap64 (x27+1)=i):aT.l1 (k+1) x6 x25 x26 x27=aT.l1 k (x6++wY x25 x27) x25 x26 i:=by
 rw [aT.l1,ah h1,ah h2,ah h3,ah h4,hi]
theorem X8 {k:Nat} {x0 x9:List (List Int)} {x3 x10 x11:Int} (h1:¬ x11<x10):aT.l0 (k+1) x0 x3 x9 x10 x11=(jB.f ([]:List Int) x3).bind fun t=>aT.l1 k t x0 (x0.length:Int) 0:=by
 rw [aT.l0,aj h1]
theorem X9 {k:Nat} {x6:List Int} {x25:List (List Int)} {x26 x27:Int} (h1:¬ x27<x26):aT.l1 (k+1) x6 x25 x26 x27=some x6:=by
 rw [aT.l1,aj h1]
theorem Ya {n:Int} (h0:0<=n) (h1:n<70368744177664):jB.f ([]:List Int) n=some []:=by
 unfold jB.f;rw [ah h0,ah h1]
theorem Ti (x y z:List Int) (hx:x.length<=1000000000) (hy:y.length<=1000000000) (hz:z.length<=1000000000) (k:Nat) (hk:9<=k):aT.f k [x,y,z]=some (x++(y++z)):=by
 obtain ⟨k,rfl⟩:∃ j,k=j+9:=⟨k - 9,by omega⟩
 have hlen:(([x,y,z]:List (List Int)).length:Int)=3:=rfl;have s0:wrap64 (0+(x.length:Int))=(x.length:Int):=by rw [bQ (by omega) (by omega)];omega
 have s1:wrap64 ((x.length:Int)+(y.length:Int))=(x.length:Int)+(y.length:Int):=bQ (by omega) (by omega);have s2:wrap64 ((x.length:Int)+(y.length:Int)+(z.length:Int))=(x.length:Int)+(y.length:Int)+(z.length:Int):=bQ (by omega) (by omega);unfold aT.f;rw [hlen];refine (FC (k:=k+8) (s:=(x.length:Int)) (i:=1) (by omega) (by omega) (by rw [hlen];omega) s0 (by omega) AbE).trans ?_;refine (FC (k:=k+7) (s:=(x.length:Int)+(y.length:Int)) (i:=2) (by omega) (by omega) (by rw [hlen];omega) s1 (by omega) AbF).trans ?_;refine (FC (k:=k+6) (s:=(x.length:Int)+(y.length:Int)+(z.length:Int)) (i:=3) (by omega) (by omega) (by rw [hlen];omega) s2 (by omega) Ags).trans ?_;refine (X8 (k:=k+5) (by omega)).trans ?_
 have h0:(0:Int)<=(x.length:Int)+(y.length:Int)+(z.length:Int):=by omega
 have h1:(x.length:Int)+(y.length:Int)+(z.length:Int)<70368744177664:=by omega
 rw [Ya h0 h1,bG,hlen];have l1:(([]:List Int)++x).length+y.length<140737488355328:=by rw [List.nil_append];omega
 have l2:(([]:List Int)++x++y).length+z.length<140737488355328:=by rw [List.nil_append,List.length_append];omega
 refine (FD (k:=k+4) (i:=1) (by omega) (by omega) (by rw [hlen];omega) (show ([]:List Int).length+x.length<140737488355328 by rw [List.length_nil];omega) AbE).trans ?_;refine (FD (k:=k+3) (i:=2) (by omega) (by omega) (by rw [hlen];omega) l1 AbF).trans ?_;refine (FD (k:=k+2) (i:=3) (by omega) (by omega) (by rw [hlen];omega) l2 Ags).trans ?_;refine (X9 (k:=k+1) (by omega)).trans ?_
 show some (([]:List Int)++x++y++z)=some (x++(y++z))
 rw [List.nil_append,List.append_assoc]
theorem Yb {s d q a f w c u:Int} {o l:List Int} (ho:o.length<=1000000000) (hl:l.length<=1000000000) (k:Nat) (hk:30<=k):gZ.f k s d q a f w c u o l=some (X7 s d q a f w c u o l):=by
 obtain ⟨k,rfl⟩:∃ j,k=j+30:=⟨k - 30,by omega⟩
 have w1:wrap64 (20+(o.length:Int))=20+(o.length:Int):=bQ (by omega) (by omega);have w2:wrap64 (20+(o.length:Int)+(l.length:Int))=20+(o.length:Int)+(l.length:Int):=bQ (by omega) (by omega);have n1:=AbE;have n2:=AbF;unfold gZ.f X7
 by_cases c1:(o.length:Int) % 4=0
 ·rw [ah c1]
  by_cases c2:(o.length:Int)>40
  ·rw [bJ c2,ah (.inr c2),gZ.j0,ah rfl]
  ·rw [jC c2,aj (by omega),gZ.j0,aj (by decide),w1,w2]
   by_cases c3:20+(o.length:Int)+(l.length:Int)>65515
   ·rw [ah c3,ah c3]
   ·rw [aj c3,aj c3,bG]
    have hlen:(([q,a]:List Int).length:Int)=2:=rfl;have r0:rd [q,a] 0=q:=rfl;have r1:rd [q,a] 1=a:=rfl;rw [hlen,gZ.l0,ah (by omega),ah (by omega),hlen,ah (by omega),r0,bG,ah (by simp),n1];rw [gZ.l0,ah (by omega),ah (by omega),hlen,ah (by omega),r1,bG,ah (by simp),n2];rw [gZ.l0,aj (by omega),bG,ah (by simp),w1,Ti _ _ _ (by simp) (by omega) (by omega) _ (by omega),bG];have e:(20+(o.length:Int)) % 256 / 4*16 % 256=(20+(o.length:Int)) / 4*16 % 256:=by omega
    rw [e]
    rfl
 ·rw [aj c1,ah (.inl c1),gZ.j0,ah rfl]
theorem FH {s d q a f w c u:Int} {o l:List Int} (ho:o.length<=1000000000) (hl:l.length<=1000000000) (k:Nat) (hk:30<=k):ak.f k s d q a f w c u o l=some (X7 s d q a f w c u o l):=by
 obtain ⟨k,rfl⟩:∃ j,k=j+30:=⟨k - 30,by omega⟩
 have w1:wrap64 (20+(o.length:Int))=20+(o.length:Int):=bQ (by omega) (by omega);unfold ak.f X7
 by_cases c1:(o.length:Int) % 4=0
 ·rw [ah c1]
  by_cases c2:(o.length:Int)>40
  ·rw [bJ c2,ah (.inr c2),ak.j0,ah rfl]
  ·have w2:wrap64 (65515 - (20+(o.length:Int)))=65515 - (20+(o.length:Int)):=bQ (by omega) (by omega)
   rw [jC c2,aj (by omega),ak.j0,aj (by decide),w1,w2]
   by_cases c3:20+(o.length:Int)+(l.length:Int)>65515
   ·rw [ah (by omega),ah c3]
   ·have w3:wrap64 (Int.tdiv (20+(o.length:Int)) 4)=(20+(o.length:Int)) / 4:=by rw [Int.tdiv_eq_ediv_of_nonneg (by omega),bQ (by omega) (by omega)]
    have e:(20+(o.length:Int)) / 4 % 256*16 % 256=(20+(o.length:Int)) / 4*16 % 256:=by omega
    rw [aj (by omega),aj c3,w3,e];unfold aY.f dZ.f;rw [bG,ah (by simp),bG,bG,ah (by simp),bG,bG,ah (by simp),bG,bG,ah (by simp),bG,bG,ah (by simp),bG,ah (by simp),bG,bG,ah (by simp),bG,bG,ah (by simp),bG,ah (by simp;omega),bG,ah (by simp;omega),List.append_assoc]
    rfl
 ·rw [aj c1,ah (.inl c1),ak.j0,ah rfl]
theorem Yc {s d q a f w c u:Int} {o:List Int} (hf:0<=f /\ f<=255):jX (WS s d q a f w c u o):=by
 unfold WS
 repeat (first|exact .nil|refine .cons (by omega) ?_)
theorem P5 (s d q a f w c u:Int) (o:List Int):(WS s d q a f w c u o).length=20:=rfl
end Go.Proofs.Ytkmimamminddiaa.Pure
namespace Go.Proofs.Ytkmimamminddiaa.uJ
open Go.RowKit Go.Proofs.Ytkmimamminddiaa.PB Go.Proofs.YtkmimamminddiaaW.PrintWords Go.Proofs.YtkmimamminddiaaW.PrintLast Go.Proofs.Ytkmimamminddiaa.Spec
theorem NQ (l:List Int) (i:Int) (j:Nat) (h:i=(j:Int)):rd l i=l.getD j 0:=by subst h;simp [rd]
theorem LU (l:List Int) (j:Nat) (h:2*j<l.length):(words l).take (j+1)=(words l).take j++[l.getD (2*j) 0*256+l.getD (2*j+1) 0]:=by
 have hl:=qo l;have hg:=NM l j h;have hj:j<(words l).length:=by omega
 rw [List.getElem?_eq_getElem hj] at hg
 injection hg with hg
 rw [List.take_succ_eq_append_getElem hj,hg]
theorem AbG (l:List Int) (hb:jX l) (hl:l.length<=1000000000) (d:Nat):∀ (k j:Nat),j+d=(l.length+1) / 2 ->d<k ->
  jL.l0 k l ((words l).take j) (((l.length+1) / 2:Nat):Int) (j:Int)=some (words l):=by
 induction d with
 |zero=>
  intro k j hj hk;obtain ⟨k,rfl⟩:∃ m,k=m+1:=⟨k - 1,by omega⟩
  simp only [jL.l0];rw [aj (by omega),List.take_of_length_le (by rw [qo];omega)]
 |succ d ih=>
  intro k j hj hk;obtain ⟨k,rfl⟩:∃ m,k=m+1:=⟨k - 1,by omega⟩
  have e2:wrap64 (2*(j:Int))=((2*j:Nat):Int):=by rw [bQ (by omega) (by omega)];omega
  have e3:wrap64 (((2*j:Nat):Int)+1)=((2*j+1:Nat):Int):=by rw [bQ (by omega) (by omega)];omega
  have e1:wrap64 ((j:Int)+1)=((j+1:Nat):Int):=by rw [bQ (by omega) (by omega)];omega
  have h1:=hb.getD (2*j);have h2:=hb.getD (2*j+1);have hlen:((words l).take j).length<70368744177664:=by rw [List.length_take,qo];omega
  have ht:=LU l j (by omega);have hi:=ih k (j+1) (by omega) (by omega);simp only [jL.l0,e2,e3,e1];rw [ah (by omega),ah (by omega),ah (by omega),NQ l _ (2*j) rfl,NQ l _ (2*j+1) rfl];rw [FB (by omega) (by omega:l.getD (2*j) 0<=65535),FB (by omega) (by omega:l.getD (2*j) 0*256<=65535),FB (by omega) (by omega:l.getD (2*j+1) 0<=65535),U1 h1 h2]
  by_cases hc:2*j+1<l.length
  ·rw [ah (by omega),ah (by omega),ah hlen,<- ht]
   exact hi
  ·have h0:l.getD (2*j+1) 0=0:=by rw [List.getD_eq_getElem?_getD,List.getElem?_eq_none (by omega)];rfl
   rw [aj (by omega),ah hlen];rw [h0,Int.add_zero] at ht
   rw [<- ht];exact hi
theorem AbH (l:List Int) (hb:jX l) (hl:l.length<=1000000000) (k:Nat) (hk:l.length+1<k):jL.f k l=some (words l):=by
 have h:=AbG l hb hl ((l.length+1) / 2) k 0 (by omega) (by omega);unfold jL.f
 have e:wrap64 (Int.tdiv (wrap64 ((l.length:Int)+1)) 2)=(((l.length+1) / 2:Nat):Int):=by
  rw [bQ (n:=(l.length:Int)+1) (by omega) (by omega),Int.tdiv_eq_ediv_of_nonneg (by omega),bQ (by omega) (by omega)];omega
 rw [e]
 simpa using h
theorem AbI {a b:Int} (ha:0<=a /\ a<=4294967295) (hb:0<=b /\ b<=65535):wQ.f a b 0=some ((a+b) % 4294967296,(a+b) / 4294967296):=by
 unfold wQ.f;rw [Td ha.1 (by omega),Td hb.1 (by omega),Td (n:=a+b) (by omega) (by omega),Td (n:=(0:Int)) (by omega) (by omega),Td (n:=a+b+0) (by omega) (by omega)];rw [Int.add_zero,show ((a+b) / 4294967296) % 4294967296=(a+b) / 4294967296 from by omega]
theorem Aj5 (ws:List Int) (hw:IsW ws) (hl:ws.length<=1000000000) (d:Nat):∀ (k j:Nat) (s:Int),j+d=ws.length ->d<k ->0<=s ->s<=4294967295 ->
  jw.l0 k s ws (ws.length:Int) (j:Int)=some (LJ s (ws.drop j)):=by
 induction d with
 |zero=>
  intro k j s hj hk h0 h1;obtain ⟨k,rfl⟩:∃ m,k=m+1:=⟨k - 1,by omega⟩
  simp only [jw.l0];rw [aj (by omega),List.drop_of_length_le (by omega)]
  rfl
 |succ d ih=>
  intro k j s hj hk h0 h1;obtain ⟨k,rfl⟩:∃ m,k=m+1:=⟨k - 1,by omega⟩
  have hjl:j<ws.length:=by omega
  have hx:=hw _ (List.getElem_mem hjl);have e1:wrap64 ((j:Int)+1)=((j+1:Nat):Int):=by rw [bQ (by omega) (by omega)];omega
  have er:rd ws (j:Int)=ws[j]:=by rw [NQ ws _ j rfl,List.getD_eq_getElem?_getD,List.getElem?_eq_getElem hjl];rfl
  have ho:=BM h0 h1 hx;have hi:=ih k (j+1) (Cm s ws[j]) (by omega) (by omega) ho.1 ho.2;simp only [jw.l0,e1,er];rw [ah (by omega),ah (by omega),ah (by omega),show ws[j] % 4294967296=ws[j] from by omega,AbI ⟨h0,h1⟩ hx];simp only [bG];have eo:((s+ws[j]) % 4294967296+(s+ws[j]) / 4294967296) % 4294967296=Cm s ws[j]:=by unfold Cm;split<;>omega
  rw [eo,hi,List.drop_eq_getElem_cons hjl]
  rfl
theorem add_eq (s:Int) (l:List Int) (hb:jX l) (hl:l.length<=1000000000) (h0:0<=s) (h1:s<=4294967295) (k:Nat) (hk:l.length+1<k):jw.f k s l=some (LJ s (words l)):=by
 unfold jw.f;rw [AbH l hb hl k hk];have hwl:=qo l;have:=Aj5 (words l) (iW l hb) (by omega) (words l).length k 0 s (by omega) (by omega) h0 h1
 simpa using this
theorem FI {k:Nat} {s:Int} (h0:0<=s) (h1:s<=65535):fP.l0 (k+1) s=some s:=by
 simp only [fP.l0];rw [ah (by omega),FB h0 h1]
theorem NR {k:Nat} {s:Int} (h0:65536<=s) (h1:s<=4294967295):fP.l0 (k+1) s=fP.l0 k (s % 65536+s / 65536):=by
 simp only [fP.l0];rw [aj (by omega),yI (by omega) h1,show (s % 65536+s / 65536) % 4294967296=s % 65536+s / 65536 from by omega]
theorem fold_eq (s:Int) (h0:0<=s) (h1:s<=4294967295) (k:Nat) (hk:3<k):fP.f k s=some (norm s):=by
 obtain ⟨k,rfl⟩:∃ m,k=m+3:=⟨k - 3,by omega⟩
 unfold fP.f
 by_cases c:s<=65535
 ·rw [FI h0 c,LM h0 c]
 ·rw [NR (by omega) h1]
  by_cases c2:s % 65536+s / 65536<=65535
  ·rw [FI (by omega) c2]
   congr 1;unfold norm;rw [aj (by omega)];omega
  ·rw [NR (by omega) (by omega),FI (by omega) (by omega)]
   congr 1;unfold norm;rw [aj (by omega)];omega
theorem Yd (l:List Int) (hb:jX l) (hl:l.length<=1000000000) (d:Nat):∀ (k j:Nat),j+d=(l.length+1) / 2 ->d<k ->
  gQ.l0 k l ((words l).take j) ((2*j:Nat):Int)=some (words l):=by
 induction d with
 |zero=>
  intro k j hj hk;obtain ⟨k,rfl⟩:∃ m,k=m+1:=⟨k - 1,by omega⟩
  simp only [gQ.l0];rw [aj (by omega),List.take_of_length_le (by rw [qo];omega)]
 |succ d ih=>
  intro k j hj hk;obtain ⟨k,rfl⟩:∃ m,k=m+1:=⟨k - 1,by omega⟩
  have e3:wrap64 (((2*j:Nat):Int)+1)=((2*j+1:Nat):Int):=by rw [bQ (by omega) (by omega)];omega
  have e1:wrap64 (((2*j:Nat):Int)+2)=((2*(j+1):Nat):Int):=by rw [bQ (by omega) (by omega)];omega
  have h1:=hb.getD (2*j);have h2:=hb.getD (2*j+1);have hlen:((words l).take j).length<70368744177664:=by rw [List.length_take,qo];omega
  have ht:=LU l j (by omega);have hi:=ih k (j+1) (by omega) (by omega);simp only [gQ.l0,e3,e1];rw [ah (by omega),ah (by omega),NQ l _ (2*j) rfl,NQ l _ (2*j+1) rfl];rw [FB (by omega) (by omega:l.getD (2*j) 0<=65535),FB (by omega) (by omega:l.getD (2*j) 0*256<=65535),FB (by omega) (by omega:l.getD (2*j+1) 0<=65535),U1 h1 h2]
  by_cases hc:2*j+1<l.length
  ·rw [ah (by omega),ah (by omega),ah hlen,<- ht]
   exact hi
  ·have h0:l.getD (2*j+1) 0=0:=by rw [List.getD_eq_getElem?_getD,List.getElem?_eq_none (by omega)];rfl
   rw [aj (by omega),ah hlen];rw [h0,Int.add_zero] at ht
   rw [<- ht];exact hi
theorem Ye (l:List Int) (hb:jX l) (hl:l.length<=1000000000) (k:Nat) (hk:l.length+1<k):gQ.f k l=some (words l):=by
 have h:=Yd l hb hl ((l.length+1) / 2) k 0 (by omega) (by omega);unfold gQ.f
 simpa using h
theorem Aem (ws:List Int) (hw:IsW ws) (hl:ws.length<=1000000000) (d:Nat):∀ (k j:Nat) (s:Int),j+d=ws.length ->d<k ->0<=s ->s<=4294967295 ->
  bM.l0 k s ws (j:Int)=some (LJ s (ws.drop j)):=by
 induction d with
 |zero=>
  intro k j s hj hk h0 h1;obtain ⟨k,rfl⟩:∃ m,k=m+1:=⟨k - 1,by omega⟩
  simp only [bM.l0];rw [aj (by omega),List.drop_of_length_le (by omega),show s % 4294967296=s from by omega]
  rfl
 |succ d ih=>
  intro k j s hj hk h0 h1;obtain ⟨k,rfl⟩:∃ m,k=m+1:=⟨k - 1,by omega⟩
  have hjl:j<ws.length:=by omega
  have hx:=hw _ (List.getElem_mem hjl);have e1:wrap64 ((j:Int)+1)=((j+1:Nat):Int):=by rw [bQ (by omega) (by omega)];omega
  have er:rd ws (j:Int)=ws[j]:=by rw [NQ ws _ j rfl,List.getD_eq_getElem?_getD,List.getElem?_eq_getElem hjl];rfl
  have ho:=BM h0 h1 hx;have hi:=ih k (j+1) (Cm s ws[j]) (by omega) (by omega) ho.1 ho.2;simp only [bM.l0,e1,er];rw [ah (by omega),ah (by omega),Td (n:=ws[j]) (by omega) (by omega),Td (n:=s+ws[j]) (by omega) (by omega)];rw [List.drop_eq_getElem_cons hjl]
  show _=some (LJ (Cm s ws[j]) (ws.drop (j+1)))
  rw [<- hi]
  by_cases hc:s+ws[j]>4294967295
  ·rw [ah hc]
   congr 1
   rw [IntKind.wrap_u64,IntKind.wrap_u64];unfold Cm;rw [ah hc];omega
  ·rw [aj hc]
   congr 1;unfold Cm;rw [aj hc]
theorem Eg (s:Int) (l:List Int) (hb:jX l) (hl:l.length<=1000000000) (h0:0<=s) (h1:s<=4294967295) (k:Nat) (hk:l.length+1<k):bM.f k s l=some (LJ s (words l)):=by
 unfold bM.f;rw [Ye l hb hl k hk];have hwl:=qo l;have:=Aem (words l) (iW l hb) (by omega) (words l).length k 0 s (by omega) (by omega) h0 h1;simp only [bG,Td h0 (show s<=18446744073709551615 from by omega)]
 simpa using this
theorem yQ (s:Int) (h0:0<=s) (h1:s<=4294967295) (k:Nat) (hk:3<k):bF.f k s=some (norm s):=by
 have hs:∀ {k:Nat} {s:Int},0<=s ->s<=65535 ->bF.l0 (k+1) s=some s:=by
  intro k s h0 h1;simp only [bF.l0];rw [ah (by omega),FB h0 h1]
 have ht:∀ {k:Nat} {s:Int},65536<=s ->s<=4294967295 ->bF.l0 (k+1) s=bF.l0 k (s / 65536+s % 65536):=by
  intro k s h0 h1;simp only [bF.l0];rw [aj (by omega),yI (by omega) h1,show (s / 65536+s % 65536) % 4294967296=s / 65536+s % 65536 from by omega]
 obtain ⟨k,rfl⟩:∃ m,k=m+3:=⟨k - 3,by omega⟩
 unfold bF.f
 by_cases c:s<=65535
 ·rw [hs h0 c,LM h0 c]
 ·rw [ht (by omega) h1]
  by_cases c2:s / 65536+s % 65536<=65535
  ·rw [hs (by omega) c2]
   congr 1;unfold norm;rw [aj (by omega)];omega
  ·rw [ht (by omega) (by omega),hs (by omega) (by omega)]
   congr 1;unfold norm;rw [aj (by omega)];omega
theorem NS (a b c n:Int) (ha:0<=a /\ a<=4294967295) (hb:0<=b /\ b<=4294967295) (hc:0<=c /\ c<=255) (k:Nat) (hk:3<k):
  nX.f k a b c n=some (norm (a / 65536+a % 65536+b / 65536+b % 65536+c+n % 65536)):=by
 unfold nX.f;rw [yI ha.1 ha.2,yI hb.1 hb.2,IntKind.wrap_u16,fold_eq _ (by omega) (by omega) k hk];simp only [bG];have:=mM (a / 65536+a % 65536+b / 65536+b % 65536+c+n % 65536) (by omega);rw [show (a / 65536+a % 65536+b / 65536+b % 65536+c+n % 65536) % 4294967296=a / 65536+a % 65536+b / 65536+b % 65536+c+n % 65536 from by omega]
 congr 1;omega
theorem FM (a b c n:Int) (ha:0<=a /\ a<=4294967295) (hb:0<=b /\ b<=4294967295) (hc:0<=c /\ c<=255) (k:Nat) (hk:3<k):
  fM.f k a b c n=some (norm (a / 65536+a % 65536+b / 65536+b % 65536+c+n % 65536)):=by
 have e64:Go.bits .and .u64 (IntKind.u64.wrap n) 65535=n % 65536:=by
  rw [IntKind.wrap_u64,show (65535:Int)=2 ^ 16 - 1 from by decide,bits_mask .u64 64 (by decide) (fun m h0 h1=>by rw [IntKind.wrap_u64];omega) 16 (by decide) _ (by omega) (by omega)]
  omega
 unfold fM.f;rw [yI ha.1 ha.2,yI hb.1 hb.2,e64,yQ _ (by omega) (by omega) k hk];simp only [bG];have:=mM (a / 65536+a % 65536+b / 65536+b % 65536+c+n % 65536) (by omega);rw [show (a / 65536+a % 65536+b / 65536+b % 65536+c+n % 65536) % 4294967296=a / 65536+a % 65536+b / 65536+b % 65536+c+n % 65536 from by omega]
 congr 1;omega
theorem of_eq (l:List Int) (hb:jX l) (hl:l.length<=1000000000) (k:Nat) (hk:l.length+1<k) (hk3:3<k):uy.f k l=some (ck l):=by
 have hr:=qA (words l) 0 (by omega) (by omega) (iW l hb);have hn:=uk (words l) 0 (by omega) (by omega) (iW l hb);have hp:=mM _ (sU _ (iW l hb));unfold uy.f;rw [add_eq 0 l hb hl (by omega) (by omega) k hk];simp only [bG];rw [fold_eq _ hr.1 hr.2 k hk3,hn,Int.zero_add];simp only [bG];rw [show (IntKind.u16.max:Int)=65535 from rfl,JE hp.1 hp.2]
 rfl
theorem AbJ (l:List Int) (hb:jX l) (hl:l.length<=1000000000) (k:Nat) (hk:l.length+1<k) (hk3:3<k):kN.f k l=some (ck l):=by
 have hr:=qA (words l) 0 (by omega) (by omega) (iW l hb);have hn:=uk (words l) 0 (by omega) (by omega) (iW l hb);have hp:=mM _ (sU _ (iW l hb));unfold kN.f;rw [Eg 0 l hb hl (by omega) (by omega) k hk];simp only [bG];rw [yQ _ hr.1 hr.2 k hk3,hn,Int.zero_add];simp only [bG];rw [show (IntKind.u16.max:Int)=65535 from rfl,JE hp.1 hp.2]
 rfl
end Go.Proofs.Ytkmimamminddiaa.uJ
namespace Go.Proofs.Ytkmimamminddiaa.PB
open Go.RowKit Go.Proofs.YtkmimamminddiaaW.PrintWords Go.Proofs.YtkmimamminddiaaW.PrintLast Go.Proofs.YtkmimamminddiaaW.PrintMore
attribute [local go_sem] dV dW gI gJ dG dH dX dY
theorem Apl (d:Nat) (w:World) (x0 y0:Int) (x1 y1:Int):
  (Op.equalIn (d+2) 65 (.agg #[.int .u32 x0,.int .u16 x1]) (.agg #[.int .u32 y0,.int .u16 y1])).run Try.prog w= .ok (x0==y0 && (x1==y1)) w:=by
 refine Ag3 Try.underlying65 (by kernel_rfl) ?_;refine Y0 (by rfl) (by go_simp;rfl) (by go_simp;rfl) (by go_simp) ?_;exact YZ (by rfl) (by go_simp;rfl) (by go_simp;rfl) (by go_simp)
attribute [local go_sem] dV dW gI gJ dG dH dX dY
attribute [local go_sem high] Apl
def nS.f (k:Nat) (a0:Int) (a1:Int) (fH:Int) (fJ:Int) (fF:Int) (lK:Int) (lM:Int) (lN:Int) (oK:Int) (lQ:Int) (kE:List Int) (kF:List Int):Option (Bool):=(ak.f k fH fJ fF lK lM lN oK lQ kE kF).bind fun LV=>(if LV.2=0 then ((fM.f k a0 a1 6 (LV.1.length:Int)).bind fun Yf=>((bM.f k Yf LV.1).bind fun Yg=>((bF.f k Yg).bind fun AbK=>(some (AbK==65535))))) else (some false))
theorem nS.calls (k:Nat) (a0:Int) (a1:Int) (fH:Int) (fJ:Int) (fF:Int) (lK:Int) (lM:Int) (lN:Int) (oK:Int) (lQ:Int) (rW:Option Addr) (rX:Nat) (kE:List Int) (rY:Option Addr) (rZ:Nat) (kF:List Int) (r:Bool) (w:World) (Dk:Kd.C (Kd.int .u8) w rW kE.length kE) (Dl:kE.length<=rX) (Dn:Kd.C (Kd.int .u8) w rY kF.length kF) (Dp:kF.length<=rZ) (h:nS.f k a0 a1 fH fJ fF lK lM lN oK lQ kE kF=some r):
  Calls Try.prog 99 #[.int .u32 a0,.int .u32 a1,.agg #[.int .u16 fH,.int .u16 fJ,.int .u32 fF,.int .u32 lK,.int .u8 lM,.int .u16 lN,.int .u16 oK,.int .u16 lQ,.slice rW kE.length rX,.slice rY kF.length rZ]] w fun e w'=>e= .returned (.bool r) /\ Below w.heap.size w w':=by
 have Ag:=Try.underlying137;have ER:=Aside0.mk Dk;have ES:=Aside0.mk Dl;clear Dk Dl;have EU:=Aside0.mk Dn;have EW:=Aside0.mk Dp;clear Dn Dp;have HB:=jy w;have H:((ak.f k fH fJ fF lK lM lN oK lQ kE kF).bind fun LV=>(if LV.2=0 then ((fM.f k a0 a1 6 (LV.1.length:Int)).bind fun Yf=>((bM.f k Yf LV.1).bind fun Yg=>((bF.f k Yg).bind fun AbK=>(some (AbK==65535))))) else (some false)))=some r:=h;clear h;replace H:=dM H;obtain ⟨⟨Aen,U4⟩,yz,H⟩:=H
 (try dsimp -simprocs only at H)
 have A4:=Aside0.mk yz;clear yz
 by_cases c5:U4=0
 ·rw [ah c5] at H
  have qR:(U4==0)=true:=jf c5;have wO:(U4 !=0)=false:=oM c5;clear c5;replace H:=dM H;obtain ⟨Yf,Ce,H⟩:=H
  (try dsimp -simprocs only at H)
  have A6:=Aside0.mk Ce;clear Ce;replace H:=dM H;obtain ⟨Yg,Iq,H⟩:=H
  (try dsimp -simprocs only at H)
  have A7:=Aside0.mk Iq;clear Iq;replace H:=dM H;obtain ⟨AbK,Sm,H⟩:=H
  (try dsimp -simprocs only at H)
  have A8:=Aside0.mk Sm;clear Sm;obtain rfl:=eF H
  go_enter Try.func99,Try.ntmps99
  go_wp2_with (first|((with_reducible refine gate_dst (N:=5) rfl ?_);(try (refine eH (by rfl) ?_;dsimp only));refine box_event ?hg (N:=5) ?hd (cs:= #[.int .u16 fH,.int .u16 fJ,.int .u32 fF,.int .u32 lK,.int .u8 lM,.int .u16 lN,.int .u16 oK,.int .u16 lQ,.slice rW kE.length rX,.slice rY kF.length rZ]) (t:=137) ?hr ?_;(case hd=>rfl);(case hg=>rfl);(case hr=>first|(go_simp;done)|(go_simp;rfl));intro rJ hg w9 hbox hb;have ay:=Aside0.mk (ag (bz HB) hb);have aC:=Aside0.mk (hbox);have bg:=Aside0.mk ((by rw [hg];exact (below_size (bz HB)):w.heap.size<=rJ));have dm:=Aside0.mk ((by rw [hg];exact (below_size (bz HB)):w.heap.size<=rJ));clear HB;have HB:=ay;have jP:=aC;have Apm:=bg;have Apn:=dm;clear ay aC bg dm;clear hb hbox hg;have zk:w9.cell? ⟨rJ,0,none⟩=some (.int .u16 fH):=cz jP.out 0 rfl;have zl:w9.cell? ⟨rJ,1,none⟩=some (.int .u16 fJ):=cz jP.out 1 rfl;have zn:w9.cell? ⟨rJ,2,none⟩=some (.int .u32 fF):=cz jP.out 2 rfl;have zo:w9.cell? ⟨rJ,3,none⟩=some (.int .u32 lK):=cz jP.out 3 rfl;have Gq:w9.cell? ⟨rJ,4,none⟩=some (.int .u8 lM):=cz jP.out 4 rfl;have Jl:w9.cell? ⟨rJ,5,none⟩=some (.int .u16 lN):=cz jP.out 5 rfl;have Jm:w9.cell? ⟨rJ,6,none⟩=some (.int .u16 oK):=cz jP.out 6 rfl;have Jn:w9.cell? ⟨rJ,7,none⟩=some (.int .u16 lQ):=cz jP.out 7 rfl;have Jo:w9.cell? ⟨rJ,8,none⟩=some (.slice rW kE.length rX):=cz jP.out 8 rfl;have Jp:w9.cell? ⟨rJ,9,none⟩=some (.slice rY kF.length rZ):=cz jP.out 9 rfl;have zq:=blk_frozen jP.out 0;have zu:=blk_frozen jP.out 1;have zx:=blk_frozen jP.out 2;have zy:=blk_frozen jP.out 3;have Gs:=blk_frozen jP.out 4;have Jq:=blk_frozen jP.out 5;have Jr:=blk_frozen jP.out 6;have Js:=blk_frozen jP.out 7;have Jt:=blk_frozen jP.out 8;have Ju:=blk_frozen jP.out 9)|((with_reducible refine ai (f:=75) rfl ?_);refine gL 11 Try.func75 #[.agg #[.int .u16 fH,.int .u16 fJ,.int .u32 fF,.int .u32 lK,.int .u8 lM,.int .u16 lN,.int .u16 oK,.int .u16 lQ,.slice rW kE.length rX,.slice rY kF.length rZ]] ?_;(with_reducible refine (ak.calls k fH fJ fF lK lM lN oK lQ _ _ kE _ _ kF Aen U4 _ ?au ?ax ?Ah ?Aj A4.out).mono ?_);(case au=>exact Kd.aJ ER.out (bz HB));(case ax=>exact ES.out);(case Ah=>exact Kd.aJ EU.out (bz HB));(case Aj=>exact EW.out);rintro e w11 ⟨Avq,rfl,ho0,hb⟩;refine ⟨_,rfl, ?_⟩;have ay:=Aside0.mk (Kd.R_lower ho0 (below_size (bz HB)));have aC:=Aside0.mk (aZ (kz jP) hb);have bg:=Aside0.mk (ag (bz HB) hb);clear jP;clear HB;have LW:=ay;have jP:=aC;have HB:=bg;clear ay aC bg;(try clear hb);(try clear hb2);(try clear hk);(try clear hi);(try clear ho0);obtain ⟨AoD,AoE,Ajz⟩:=Kd.dN LW.out;subst Ajz)|(go_at_call 82;(with_reducible refine (fM.calls k a0 a1 6 (Aen.length:Int) Yf _ A6.out).mono ?_);rintro e w' ⟨rfl,⟨nd,rfl⟩⟩)|(go_at_call 80;(with_reducible refine (bM.calls k Yf _ _ Aen Yg _ ?au ?ax A7.out).mono ?_);(case au=>repeat (first|exact (Kd.R_reads' LW.out).2.2|(with_reducible refine Kd.iL ?_ _)|(with_reducible refine Kd.iD ?_ _)|(with_reducible refine Kd.jE ?_)));(case ax=>exact (Kd.R_reads' LW.out).2.1);rintro e w13 ⟨rfl,hb⟩;have ay:=Aside0.mk (Kd.jd (Kd.rz LW) hb);have aC:=Aside0.mk (aZ (kz jP) hb);have bg:=Aside0.mk (ag (bz HB) hb);clear LW;clear jP;clear HB;have LW:=ay;have jP:=aC;have HB:=bg;clear ay aC bg;(try clear hb);(try clear hb2);(try clear hk);(try clear hi))|(go_at_call 79;(with_reducible refine (bF.calls k Yg AbK _ A8.out).mono ?_);rintro e w' ⟨rfl,⟨nd,rfl⟩⟩))
  go_ret
  exact ⟨by first|rfl|(simp [ae,af]<;>rfl)|(simp [*,ae,af]<;>rfl),bz HB⟩
 ·rw [aj c5] at H
  have qR:(U4==0)=false:=iM c5;have wO:(U4 !=0)=true:=pq c5;obtain rfl:=eF H
  go_enter Try.func99,Try.ntmps99
  go_wp2_with (first|((with_reducible refine gate_dst (N:=5) rfl ?_);(try (refine eH (by rfl) ?_;dsimp only));refine box_event ?hg (N:=5) ?hd (cs:= #[.int .u16 fH,.int .u16 fJ,.int .u32 fF,.int .u32 lK,.int .u8 lM,.int .u16 lN,.int .u16 oK,.int .u16 lQ,.slice rW kE.length rX,.slice rY kF.length rZ]) (t:=137) ?hr ?_;(case hd=>rfl);(case hg=>rfl);(case hr=>first|(go_simp;done)|(go_simp;rfl));intro rJ hg w14 hbox hb;have ay:=Aside0.mk (ag (bz HB) hb);have aC:=Aside0.mk (hbox);have bg:=Aside0.mk ((by rw [hg];exact (below_size (bz HB)):w.heap.size<=rJ));have dm:=Aside0.mk ((by rw [hg];exact (below_size (bz HB)):w.heap.size<=rJ));clear HB;have HB:=ay;have jP:=aC;have Apm:=bg;have Apn:=dm;clear ay aC bg dm;clear hb hbox hg;have AdN:w14.cell? ⟨rJ,0,none⟩=some (.int .u16 fH):=cz jP.out 0 rfl;have AdO:w14.cell? ⟨rJ,1,none⟩=some (.int .u16 fJ):=cz jP.out 1 rfl;have AdP:w14.cell? ⟨rJ,2,none⟩=some (.int .u32 fF):=cz jP.out 2 rfl;have AdQ:w14.cell? ⟨rJ,3,none⟩=some (.int .u32 lK):=cz jP.out 3 rfl;have AdR:w14.cell? ⟨rJ,4,none⟩=some (.int .u8 lM):=cz jP.out 4 rfl;have AdS:w14.cell? ⟨rJ,5,none⟩=some (.int .u16 lN):=cz jP.out 5 rfl;have AdT:w14.cell? ⟨rJ,6,none⟩=some (.int .u16 oK):=cz jP.out 6 rfl;have AdU:w14.cell? ⟨rJ,7,none⟩=some (.int .u16 lQ):=cz jP.out 7 rfl;have AdV:w14.cell? ⟨rJ,8,none⟩=some (.slice rW kE.length rX):=cz jP.out 8 rfl;have AdW:w14.cell? ⟨rJ,9,none⟩=some (.slice rY kF.length rZ):=cz jP.out 9 rfl;have AdX:=blk_frozen jP.out 0;have AdY:=blk_frozen jP.out 1;have AdZ:=blk_frozen jP.out 2;have Ad0:=blk_frozen jP.out 3;have Ad1:=blk_frozen jP.out 4;have Ad2:=blk_frozen jP.out 5;have Ad3:=blk_frozen jP.out 6;have Ad4:=blk_frozen jP.out 7;have Ad5:=blk_frozen jP.out 8;have Ad6:=blk_frozen jP.out 9)|((with_reducible refine ai (f:=75) rfl ?_);refine gL 11 Try.func75 #[.agg #[.int .u16 fH,.int .u16 fJ,.int .u32 fF,.int .u32 lK,.int .u8 lM,.int .u16 lN,.int .u16 oK,.int .u16 lQ,.slice rW kE.length rX,.slice rY kF.length rZ]] ?_;(with_reducible refine (ak.calls k fH fJ fF lK lM lN oK lQ _ _ kE _ _ kF Aen U4 _ ?au ?ax ?Ah ?Aj A4.out).mono ?_);(case au=>exact Kd.aJ ER.out (bz HB));(case ax=>exact ES.out);(case Ah=>exact Kd.aJ EU.out (bz HB));(case Aj=>exact EW.out);rintro e w16 ⟨Avq,rfl,ho0,hb⟩;refine ⟨_,rfl, ?_⟩;have ay:=Aside0.mk (Kd.R_lower ho0 (below_size (bz HB)));have aC:=Aside0.mk (aZ (kz jP) hb);have bg:=Aside0.mk (ag (bz HB) hb);clear jP;clear HB;have LW:=ay;have jP:=aC;have HB:=bg;clear ay aC bg;(try clear hb);(try clear hb2);(try clear hk);(try clear hi);(try clear ho0)))
  go_ret
  exact ⟨by first|rfl|(simp [ae,af]<;>rfl)|(simp [*,ae,af]<;>rfl),bz HB⟩
def mO.f (k:Nat) (aI:Int) (aV:Int) (aX:Int) (bn:Int) (bY:List Int):Option (Bool):=(bI.f aI aV aX bn bY).bind fun Tj=>(if Tj.2=0 then ((bM.f k 0 Tj.1).bind fun Yh=>((bF.f k Yh).bind fun AbL=>(some (AbL==65535)))) else (some false))
theorem mO.calls (k:Nat) (aI:Int) (aV:Int) (aX:Int) (bn:Int) (iO:Option Addr) (iP:Nat) (bY:List Int) (r:Bool) (w:World) (nI:Kd.C (Kd.int .u8) w iO bY.length bY) (nJ:bY.length<=iP) (h:mO.f k aI aV aX bn bY=some r):
  Calls Try.prog 100 #[.agg #[.int .u8 aI,.int .u8 aV,.int .u16 aX,.int .u32 bn,.slice iO bY.length iP]] w fun e w'=>e= .returned (.bool r) /\ Below w.heap.size w w':=by
 have uQ:=Try.underlying101;have uu:=Aside0.mk nI;have uS:=Aside0.mk nJ;clear nI nJ;have HB:=jy w;have H:((bI.f aI aV aX bn bY).bind fun Tj=>(if Tj.2=0 then ((bM.f k 0 Tj.1).bind fun Yh=>((bF.f k Yh).bind fun AbL=>(some (AbL==65535)))) else (some false)))=some r:=h;clear h;replace H:=dM H;obtain ⟨⟨Aj6,U5⟩,Aw,H⟩:=H
 (try dsimp -simprocs only at H)
 have A2:=Aside0.mk Aw;clear Aw
 by_cases c3:U5=0
 ·rw [ah c3] at H
  have tY:(U5==0)=true:=jf c3;have vI:(U5 !=0)=false:=oM c3;clear c3;replace H:=dM H;obtain ⟨Yh,yz,H⟩:=H
  (try dsimp -simprocs only at H)
  have A4:=Aside0.mk yz;clear yz;replace H:=dM H;obtain ⟨AbL,Kq,H⟩:=H
  (try dsimp -simprocs only at H)
  have A5:=Aside0.mk Kq;clear Kq;obtain rfl:=eF H
  go_enter Try.func100,Try.ntmps100
  go_wp2_with (first|((with_reducible refine gate_dst (N:=1) rfl ?_);refine box_event ?hg (N:=1) ?hd (cs:= #[.int .u8 aI,.int .u8 aV,.int .u16 aX,.int .u32 bn,.slice iO bY.length iP]) (t:=101) ?hr ?_;(case hd=>rfl);(case hg=>rfl);(case hr=>first|(go_simp;done)|(go_simp;rfl));intro yR hg w6 hbox hb;have ay:=Aside0.mk (ag (bz HB) hb);have aC:=Aside0.mk (hbox);have bg:=Aside0.mk ((by rw [hg];exact (below_size (bz HB)):w.heap.size<=yR));have dm:=Aside0.mk ((by rw [hg];exact (below_size (bz HB)):w.heap.size<=yR));clear HB;have HB:=ay;have pg:=aC;have Apo:=bg;have Apq:=dm;clear ay aC bg dm;clear hb hbox hg;have AZ:w6.cell? ⟨yR,0,none⟩=some (.int .u8 aI):=cz pg.out 0 rfl;have Ba:w6.cell? ⟨yR,1,none⟩=some (.int .u8 aV):=cz pg.out 1 rfl;have Bc:w6.cell? ⟨yR,2,none⟩=some (.int .u16 aX):=cz pg.out 2 rfl;have Bd:w6.cell? ⟨yR,3,none⟩=some (.int .u32 bn):=cz pg.out 3 rfl;have CX:w6.cell? ⟨yR,4,none⟩=some (.slice iO bY.length iP):=cz pg.out 4 rfl;have Be:=blk_frozen pg.out 0;have Bf:=blk_frozen pg.out 1;have Bg:=blk_frozen pg.out 2;have Bh:=blk_frozen pg.out 3;have CY:=blk_frozen pg.out 4)|((with_reducible refine ai (f:=55) rfl ?_);refine gL 7 Try.func55 #[.agg #[.int .u8 aI,.int .u8 aV,.int .u16 aX,.int .u32 bn,.slice iO bY.length iP]] ?_;(with_reducible refine (bI.calls aI aV aX bn _ _ bY Aj6 U5 _ ?au ?ax A2.out).mono ?_);(case au=>exact Kd.aJ uu.out (bz HB));(case ax=>exact uS.out);rintro e w8 ⟨Avr,rfl,ho0,hb⟩;refine ⟨_,rfl, ?_⟩;have ay:=Aside0.mk (Kd.R_lower ho0 (below_size (bz HB)));have aC:=Aside0.mk (aZ (kz pg) hb);have bg:=Aside0.mk (ag (bz HB) hb);clear pg;clear HB;have LX:=ay;have pg:=aC;have HB:=bg;clear ay aC bg;(try clear hb);(try clear hb2);(try clear hk);(try clear hi);(try clear ho0);obtain ⟨Ao9,co9,eo9⟩:=Kd.dN LX.out;subst eo9)|(go_at_call 80;(with_reducible refine (bM.calls k 0 _ _ Aj6 Yh _ ?au ?ax A4.out).mono ?_);(case au=>repeat (first|exact (Kd.R_reads' LX.out).2.2|(with_reducible refine Kd.iL ?_ _)|(with_reducible refine Kd.iD ?_ _)|(with_reducible refine Kd.jE ?_)));(case ax=>exact (Kd.R_reads' LX.out).2.1);rintro e w10 ⟨rfl,hb⟩;have ay:=Aside0.mk (Kd.jd (Kd.rz LX) hb);have aC:=Aside0.mk (aZ (kz pg) hb);have bg:=Aside0.mk (ag (bz HB) hb);clear LX;clear pg;clear HB;have LX:=ay;have pg:=aC;have HB:=bg;clear ay aC bg;(try clear hb);(try clear hb2);(try clear hk);(try clear hi))|(go_at_call 79;(with_reducible refine (bF.calls k Yh AbL _ A5.out).mono ?_);rintro e w' ⟨rfl,⟨nd,rfl⟩⟩))
  go_ret
  exact ⟨by first|rfl|(simp [ae,af]<;>rfl)|(simp [*,ae,af]<;>rfl),bz HB⟩
 ·rw [aj c3] at H
  have tY:(U5==0)=false:=iM c3;have vI:(U5 !=0)=true:=pq c3;obtain rfl:=eF H
  go_enter Try.func100,Try.ntmps100
  go_wp2_with (first|((with_reducible refine gate_dst (N:=1) rfl ?_);refine box_event ?hg (N:=1) ?hd (cs:= #[.int .u8 aI,.int .u8 aV,.int .u16 aX,.int .u32 bn,.slice iO bY.length iP]) (t:=101) ?hr ?_;(case hd=>rfl);(case hg=>rfl);(case hr=>first|(go_simp;done)|(go_simp;rfl));intro yR hg w11 hbox hb;have ay:=Aside0.mk (ag (bz HB) hb);have aC:=Aside0.mk (hbox);have bg:=Aside0.mk ((by rw [hg];exact (below_size (bz HB)):w.heap.size<=yR));have dm:=Aside0.mk ((by rw [hg];exact (below_size (bz HB)):w.heap.size<=yR));clear HB;have HB:=ay;have pg:=aC;have Apo:=bg;have Apq:=dm;clear ay aC bg dm;clear hb hbox hg;have ArV:w11.cell? ⟨yR,0,none⟩=some (.int .u8 aI):=cz pg.out 0 rfl;have ArW:w11.cell? ⟨yR,1,none⟩=some (.int .u8 aV):=cz pg.out 1 rfl;have ArX:w11.cell? ⟨yR,2,none⟩=some (.int .u16 aX):=cz pg.out 2 rfl;have ArY:w11.cell? ⟨yR,3,none⟩=some (.int .u32 bn):=cz pg.out 3 rfl;have ArZ:w11.cell? ⟨yR,4,none⟩=some (.slice iO bY.length iP):=cz pg.out 4 rfl;have Ar0:=blk_frozen pg.out 0;have Ar1:=blk_frozen pg.out 1;have Ar2:=blk_frozen pg.out 2;have Ar3:=blk_frozen pg.out 3;have Ar4:=blk_frozen pg.out 4)|((with_reducible refine ai (f:=55) rfl ?_);refine gL 7 Try.func55 #[.agg #[.int .u8 aI,.int .u8 aV,.int .u16 aX,.int .u32 bn,.slice iO bY.length iP]] ?_;(with_reducible refine (bI.calls aI aV aX bn _ _ bY Aj6 U5 _ ?au ?ax A2.out).mono ?_);(case au=>exact Kd.aJ uu.out (bz HB));(case ax=>exact uS.out);rintro e w13 ⟨Avr,rfl,ho0,hb⟩;refine ⟨_,rfl, ?_⟩;have ay:=Aside0.mk (Kd.R_lower ho0 (below_size (bz HB)));have aC:=Aside0.mk (aZ (kz pg) hb);have bg:=Aside0.mk (ag (bz HB) hb);clear pg;clear HB;have LX:=ay;have pg:=aC;have HB:=bg;clear ay aC bg;(try clear hb);(try clear hb2);(try clear hk);(try clear hi);(try clear ho0)))
  go_ret
  exact ⟨by first|rfl|(simp [ae,af]<;>rfl)|(simp [*,ae,af]<;>rfl),bz HB⟩
def rM.f (aI:Int) (aV:Int) (aX:Int) (bn:Int) (bY:List Int):Option (Bool):=if aI=8 then (some (aV==0)) else (if aI=0 then (some (aV==0)) else (some false))
theorem rM.calls (aI:Int) (aV:Int) (aX:Int) (bn:Int) (iO:Option Addr) (iP:Nat) (bY:List Int) (r:Bool) (w:World) (nI:Kd.C (Kd.int .u8) w iO bY.length bY) (nJ:bY.length<=iP) (h:rM.f aI aV aX bn bY=some r):
  Calls Try.prog 101 #[.agg #[.int .u8 aI,.int .u8 aV,.int .u16 aX,.int .u32 bn,.slice iO bY.length iP]] w fun e w'=>e= .returned (.bool r) /\ Below w.heap.size w w':=by
 have uQ:=Try.underlying101;have uu:=Aside0.mk nI;have uS:=Aside0.mk nJ;clear nI nJ;have HB:=jy w;have H:(if aI=8 then (some (aV==0)) else (if aI=0 then (some (aV==0)) else (some false)))=some r:=h;clear h
 by_cases c2:aI=8
 ·rw [ah c2] at H
  have nV:(aI==8)=true:=jf c2;have qQ:(aI !=8)=false:=oM c2;clear c2;obtain rfl:=eF H
  go_enter Try.func101,Try.ntmps101
  go_wp2_with (first|((with_reducible refine gate_dst (N:=1) rfl ?_);refine box_event ?hg (N:=1) ?hd (cs:= #[.int .u8 aI,.int .u8 aV,.int .u16 aX,.int .u32 bn,.slice iO bY.length iP]) (t:=101) ?hr ?_;(case hd=>rfl);(case hg=>rfl);(case hr=>first|(go_simp;done)|(go_simp;rfl));intro sW hg w3 hbox hb;have ay:=Aside0.mk (ag (bz HB) hb);have aC:=Aside0.mk (hbox);have bg:=Aside0.mk ((by rw [hg];exact (below_size (bz HB)):w.heap.size<=sW));have dm:=Aside0.mk ((by rw [hg];exact (below_size (bz HB)):w.heap.size<=sW));clear HB;have HB:=ay;have oG:=aC;have Agt:=bg;have Agu:=dm;clear ay aC bg dm;clear hb hbox hg;have vK:w3.cell? ⟨sW,0,none⟩=some (.int .u8 aI):=cz oG.out 0 rfl;have vM:w3.cell? ⟨sW,1,none⟩=some (.int .u8 aV):=cz oG.out 1 rfl;have vN:w3.cell? ⟨sW,2,none⟩=some (.int .u16 aX):=cz oG.out 2 rfl;have vO:w3.cell? ⟨sW,3,none⟩=some (.int .u32 bn):=cz oG.out 3 rfl;have zU:w3.cell? ⟨sW,4,none⟩=some (.slice iO bY.length iP):=cz oG.out 4 rfl;have vP:=blk_frozen oG.out 0;have vS:=blk_frozen oG.out 1;have vT:=blk_frozen oG.out 2;have vU:=blk_frozen oG.out 3;have zV:=blk_frozen oG.out 4))
  go_ret
  exact ⟨by first|rfl|(simp [ae,af]<;>rfl)|(simp [*,ae,af]<;>rfl),bz HB⟩
 ·rw [aj c2] at H
  have nV:(aI==8)=false:=iM c2;have qQ:(aI !=8)=true:=pq c2
  by_cases c5:aI=0
  ·rw [ah c5] at H
   have qR:(aI==0)=true:=jf c5;have wO:(aI !=0)=false:=oM c5;clear c5;obtain rfl:=eF H
   go_enter Try.func101,Try.ntmps101
   go_wp2_with (first|((with_reducible refine gate_dst (N:=1) rfl ?_);refine box_event ?hg (N:=1) ?hd (cs:= #[.int .u8 aI,.int .u8 aV,.int .u16 aX,.int .u32 bn,.slice iO bY.length iP]) (t:=101) ?hr ?_;(case hd=>rfl);(case hg=>rfl);(case hr=>first|(go_simp;done)|(go_simp;rfl));intro sW hg w6 hbox hb;have ay:=Aside0.mk (ag (bz HB) hb);have aC:=Aside0.mk (hbox);have bg:=Aside0.mk ((by rw [hg];exact (below_size (bz HB)):w.heap.size<=sW));have dm:=Aside0.mk ((by rw [hg];exact (below_size (bz HB)):w.heap.size<=sW));clear HB;have HB:=ay;have oG:=aC;have Agt:=bg;have Agu:=dm;clear ay aC bg dm;clear hb hbox hg;have AZ:w6.cell? ⟨sW,0,none⟩=some (.int .u8 aI):=cz oG.out 0 rfl;have Ba:w6.cell? ⟨sW,1,none⟩=some (.int .u8 aV):=cz oG.out 1 rfl;have Bc:w6.cell? ⟨sW,2,none⟩=some (.int .u16 aX):=cz oG.out 2 rfl;have Bd:w6.cell? ⟨sW,3,none⟩=some (.int .u32 bn):=cz oG.out 3 rfl;have CX:w6.cell? ⟨sW,4,none⟩=some (.slice iO bY.length iP):=cz oG.out 4 rfl;have Be:=blk_frozen oG.out 0;have Bf:=blk_frozen oG.out 1;have Bg:=blk_frozen oG.out 2;have Bh:=blk_frozen oG.out 3;have CY:=blk_frozen oG.out 4))
   go_ret
   exact ⟨by first|rfl|(simp [ae,af]<;>rfl)|(simp [*,ae,af]<;>rfl),bz HB⟩
  ·rw [aj c5] at H
   have qR:(aI==0)=false:=iM c5;have wO:(aI !=0)=true:=pq c5;obtain rfl:=eF H
   go_enter Try.func101,Try.ntmps101
   go_wp2_with (first|((with_reducible refine gate_dst (N:=1) rfl ?_);refine box_event ?hg (N:=1) ?hd (cs:= #[.int .u8 aI,.int .u8 aV,.int .u16 aX,.int .u32 bn,.slice iO bY.length iP]) (t:=101) ?hr ?_;(case hd=>rfl);(case hg=>rfl);(case hr=>first|(go_simp;done)|(go_simp;rfl));intro sW hg w8 hbox hb;have ay:=Aside0.mk (ag (bz HB) hb);have aC:=Aside0.mk (hbox);have bg:=Aside0.mk ((by rw [hg];exact (below_size (bz HB)):w.heap.size<=sW));have dm:=Aside0.mk ((by rw [hg];exact (below_size (bz HB)):w.heap.size<=sW));clear HB;have HB:=ay;have oG:=aC;have Agt:=bg;have Agu:=dm;clear ay aC bg dm;clear hb hbox hg;have Kt:w8.cell? ⟨sW,0,none⟩=some (.int .u8 aI):=cz oG.out 0 rfl;have Ku:w8.cell? ⟨sW,1,none⟩=some (.int .u8 aV):=cz oG.out 1 rfl;have Kv:w8.cell? ⟨sW,2,none⟩=some (.int .u16 aX):=cz oG.out 2 rfl;have Kw:w8.cell? ⟨sW,3,none⟩=some (.int .u32 bn):=cz oG.out 3 rfl;have OZ:w8.cell? ⟨sW,4,none⟩=some (.slice iO bY.length iP):=cz oG.out 4 rfl;have Ky:=blk_frozen oG.out 0;have Kz:=blk_frozen oG.out 1;have KA:=blk_frozen oG.out 2;have KC:=blk_frozen oG.out 3;have O0:=blk_frozen oG.out 4))
   go_ret
   exact ⟨by first|rfl|(simp [ae,af]<;>rfl)|(simp [*,ae,af]<;>rfl),bz HB⟩
def qO.f (aI:Int) (aV:Int) (aX:Int) (bn:Int) (bY:List Int):Option (Bool):=if aI=3 then (some true) else (if aI=11 then (some true) else (some (aI==12)))
theorem qO.calls (aI:Int) (aV:Int) (aX:Int) (bn:Int) (iO:Option Addr) (iP:Nat) (bY:List Int) (r:Bool) (w:World) (nI:Kd.C (Kd.int .u8) w iO bY.length bY) (nJ:bY.length<=iP) (h:qO.f aI aV aX bn bY=some r):
  Calls Try.prog 102 #[.agg #[.int .u8 aI,.int .u8 aV,.int .u16 aX,.int .u32 bn,.slice iO bY.length iP]] w fun e w'=>e= .returned (.bool r) /\ Below w.heap.size w w':=by
 have uQ:=Try.underlying101;have uu:=Aside0.mk nI;have uS:=Aside0.mk nJ;clear nI nJ;have HB:=jy w;have H:(if aI=3 then (some true) else (if aI=11 then (some true) else (some (aI==12))))=some r:=h;clear h
 by_cases c2:aI=3
 ·rw [ah c2] at H
  have nV:(aI==3)=true:=jf c2;have qQ:(aI !=3)=false:=oM c2;clear c2;obtain rfl:=eF H
  go_enter Try.func102,Try.ntmps102
  go_wp2_with (first|((with_reducible refine gate_dst (N:=1) rfl ?_);refine box_event ?hg (N:=1) ?hd (cs:= #[.int .u8 aI,.int .u8 aV,.int .u16 aX,.int .u32 bn,.slice iO bY.length iP]) (t:=101) ?hr ?_;(case hd=>rfl);(case hg=>rfl);(case hr=>first|(go_simp;done)|(go_simp;rfl));intro sZ hg w3 hbox hb;have ay:=Aside0.mk (ag (bz HB) hb);have aC:=Aside0.mk (hbox);have bg:=Aside0.mk ((by rw [hg];exact (below_size (bz HB)):w.heap.size<=sZ));have dm:=Aside0.mk ((by rw [hg];exact (below_size (bz HB)):w.heap.size<=sZ));clear HB;have HB:=ay;have oH:=aC;have Agv:=bg;have Agw:=dm;clear ay aC bg dm;clear hb hbox hg;have vK:w3.cell? ⟨sZ,0,none⟩=some (.int .u8 aI):=cz oH.out 0 rfl;have vM:w3.cell? ⟨sZ,1,none⟩=some (.int .u8 aV):=cz oH.out 1 rfl;have vN:w3.cell? ⟨sZ,2,none⟩=some (.int .u16 aX):=cz oH.out 2 rfl;have vO:w3.cell? ⟨sZ,3,none⟩=some (.int .u32 bn):=cz oH.out 3 rfl;have zU:w3.cell? ⟨sZ,4,none⟩=some (.slice iO bY.length iP):=cz oH.out 4 rfl;have vP:=blk_frozen oH.out 0;have vS:=blk_frozen oH.out 1;have vT:=blk_frozen oH.out 2;have vU:=blk_frozen oH.out 3;have zV:=blk_frozen oH.out 4))
  go_ret
  exact ⟨by first|rfl|(simp [ae,af]<;>rfl)|(simp [*,ae,af]<;>rfl),bz HB⟩
 ·rw [aj c2] at H
  have nV:(aI==3)=false:=iM c2;have qQ:(aI !=3)=true:=pq c2
  by_cases c5:aI=11
  ·rw [ah c5] at H
   have qR:(aI==11)=true:=jf c5;have wO:(aI !=11)=false:=oM c5;clear c5;obtain rfl:=eF H
   go_enter Try.func102,Try.ntmps102
   go_wp2_with (first|((with_reducible refine gate_dst (N:=1) rfl ?_);refine box_event ?hg (N:=1) ?hd (cs:= #[.int .u8 aI,.int .u8 aV,.int .u16 aX,.int .u32 bn,.slice iO bY.length iP]) (t:=101) ?hr ?_;(case hd=>rfl);(case hg=>rfl);(case hr=>first|(go_simp;done)|(go_simp;rfl));intro sZ hg w6 hbox hb;have ay:=Aside0.mk (ag (bz HB) hb);have aC:=Aside0.mk (hbox);have bg:=Aside0.mk ((by rw [hg];exact (below_size (bz HB)):w.heap.size<=sZ));have dm:=Aside0.mk ((by rw [hg];exact (below_size (bz HB)):w.heap.size<=sZ));clear HB;have HB:=ay;have oH:=aC;have Agv:=bg;have Agw:=dm;clear ay aC bg dm;clear hb hbox hg;have AZ:w6.cell? ⟨sZ,0,none⟩=some (.int .u8 aI):=cz oH.out 0 rfl;have Ba:w6.cell? ⟨sZ,1,none⟩=some (.int .u8 aV):=cz oH.out 1 rfl;have Bc:w6.cell? ⟨sZ,2,none⟩=some (.int .u16 aX):=cz oH.out 2 rfl;have Bd:w6.cell? ⟨sZ,3,none⟩=some (.int .u32 bn):=cz oH.out 3 rfl;have CX:w6.cell? ⟨sZ,4,none⟩=some (.slice iO bY.length iP):=cz oH.out 4 rfl;have Be:=blk_frozen oH.out 0;have Bf:=blk_frozen oH.out 1;have Bg:=blk_frozen oH.out 2;have Bh:=blk_frozen oH.out 3;have CY:=blk_frozen oH.out 4))
   go_ret
   exact ⟨by first|rfl|(simp [ae,af]<;>rfl)|(simp [*,ae,af]<;>rfl),bz HB⟩
  ·rw [aj c5] at H
   have qR:(aI==11)=false:=iM c5;have wO:(aI !=11)=true:=pq c5;obtain rfl:=eF H
   go_enter Try.func102,Try.ntmps102
   go_wp2_with (first|((with_reducible refine gate_dst (N:=1) rfl ?_);refine box_event ?hg (N:=1) ?hd (cs:= #[.int .u8 aI,.int .u8 aV,.int .u16 aX,.int .u32 bn,.slice iO bY.length iP]) (t:=101) ?hr ?_;(case hd=>rfl);(case hg=>rfl);(case hr=>first|(go_simp;done)|(go_simp;rfl));intro sZ hg w8 hbox hb;have ay:=Aside0.mk (ag (bz HB) hb);have aC:=Aside0.mk (hbox);have bg:=Aside0.mk ((by rw [hg];exact (below_size (bz HB)):w.heap.size<=sZ));have dm:=Aside0.mk ((by rw [hg];exact (below_size (bz HB)):w.heap.size<=sZ));clear HB;have HB:=ay;have oH:=aC;have Agv:=bg;have Agw:=dm;clear ay aC bg dm;clear hb hbox hg;have Kt:w8.cell? ⟨sZ,0,none⟩=some (.int .u8 aI):=cz oH.out 0 rfl;have Ku:w8.cell? ⟨sZ,1,none⟩=some (.int .u8 aV):=cz oH.out 1 rfl;have Kv:w8.cell? ⟨sZ,2,none⟩=some (.int .u16 aX):=cz oH.out 2 rfl;have Kw:w8.cell? ⟨sZ,3,none⟩=some (.int .u32 bn):=cz oH.out 3 rfl;have OZ:w8.cell? ⟨sZ,4,none⟩=some (.slice iO bY.length iP):=cz oH.out 4 rfl;have Ky:=blk_frozen oH.out 0;have Kz:=blk_frozen oH.out 1;have KA:=blk_frozen oH.out 2;have KC:=blk_frozen oH.out 3;have O0:=blk_frozen oH.out 4))
   go_ret
   exact ⟨by first|rfl|(simp [ae,af]<;>rfl)|(simp [*,ae,af]<;>rfl),bz HB⟩
def iK.l0:Nat ->List (S65) ->List (S65) ->Int ->Option (Bool)
 |0,_,_,_=>none
 |k+1,x0,x1,x5=>if x5<(x0.length:Int) then (if 0<=x5 then (if x5<(x1.length:Int) then (if (!(((qI x0 x5).f0)==((qI x1 x5).f0))||(!(((qI x0 x5).f1)==((qI x1 x5).f1))))=true then (some false) else (iK.l0 k x0 x1 (wrap64 (x5+1)))) else (none)) else (none)) else (some true)
def iK.f (k:Nat) (l0:List (S65)) (l1:List (S65)):Option (Bool):=if (l0.length:Int)=(l1.length:Int) then (iK.l0 k l0 l1 0) else (some false)
theorem iK.calls (k:Nat) (A0:Option Addr) (c0:Nat) (l0:List (S65)) (A1:Option Addr) (c1:Nat) (l1:List (S65)) (r:Bool) (w:World) (hr0:Kd.C k65 w A0 l0.length l0) (hc0:l0.length<=c0) (hr1:Kd.C k65 w A1 l1.length l1) (hc1:l1.length<=c1) (h:iK.f k l0 l1=some r):
  Calls Try.prog 37 #[.slice A0 l0.length c0,.slice A1 l1.length c1] w fun e w'=>e= .returned (.bool r) /\ bf w w':=by
 have hu65:=Try.underlying65;have HR0:=Aside0.mk hr0;have mg:=Aside0.mk hc0;clear hr0 hc0;have HR1:=Aside0.mk hr1;have VJ:=Aside0.mk hc1;clear hr1 hc1;have H:(if (l0.length:Int)=(l1.length:Int) then (iK.l0 k l0 l1 0) else (some false))=some r:=h;clear h
 by_cases c3:(l0.length:Int)=(l1.length:Int)
 ·rw [ah c3] at H
  have tY:((l0.length:Int)==(l1.length:Int))=true:=jf c3;have vI:((l0.length:Int) !=(l1.length:Int))=false:=oM c3;have Apr:(l0.length==l1.length)=true:=by first|simpa using c3|(simp at c3|-;omega)
  clear c3;have H':=Aside0.mk H;clear H
  go_enter Try.func37,Try.ntmps37
  go_wp2
  repeat (go_quiet (fail);try go_wp2)
  go_loopg [5] k (fun kq v5 w'=>∃ (qj:Int),v5= .int .i64 qj /\ Aside0 (iK.l0 kq l0 l1 qj=some r) /\ Aside0 (kq<=k) /\ bf w w')
  case atStart=>exact ⟨(0),(by first|rfl|(simp;done)|(simp [*];done)),H',⟨Nat.le_refl _⟩,by repeat (first|exact bf.refl _|apply bf.step)⟩
  case round=>
   clear H'
   try clear c1
   try clear c3
   try clear tY
   try clear vI
   try clear Apr
   obtain ⟨qj,rfl,HA,Ff,⟨m1,rfl⟩⟩:=hrel
   cases gk with
   |zero=>exact absurd HA.out (by simp [iK.l0])
   |succ k1=>
    have H:=HA.out;clear HA;simp only [iK.l0] at H
    by_cases c4:qj<(l0.length:Int)
    ·rw [ah c4] at H
     have qE:decide (qj<(l0.length:Int))=true:=bJ c4;clear c4
     by_cases c5:0<=qj
     ·rw [ah c5] at H
      have qR:decide (0<=qj)=true:=bJ c5;clear c5
      by_cases c6:qj<(l1.length:Int)
      ·rw [ah c6] at H
       have yY:decide (qj<(l1.length:Int))=true:=bJ c6;clear c6
       by_cases c7:(!(((qI l0 qj).f0)==((qI l1 qj).f0))||(!(((qI l0 qj).f1)==((qI l1 qj).f1))))=true
       ·rw [ah c7] at H
        have Fe:(!(((qI l0 qj).f0)==((qI l1 qj).f0))||(!(((qI l0 qj).f1)==((qI l1 qj).f1))))=true:=c7;clear c7;obtain rfl:=eF H;have U6:0<=(qj:Int):=je;have U7:qj<(l0.length:Int):=je;obtain ⟨Aps,Aj7,Aeo,Aep⟩:=at_T65 HR0.out qj U6 U7
        cases Aj7
        replace U6:=eq_true U6;replace U7:=eq_true U7;have U9:0<=(qj:Int):=je;have Va:qj<(l1.length:Int):=je;obtain ⟨Apt,Aj8,Aeq,Aer⟩:=at_T65 HR1.out qj U9 Va
        cases Aj8
        replace U9:=eq_true U9;replace Va:=eq_true Va
        go_wp2
        repeat (go_quiet (fail);try go_wp2)
        go_ret
        exact ⟨by first|rfl|(simp;done)|(simp [*];done),by repeat (first|exact bf.refl _|apply bf.step)⟩
       ·rw [aj c7] at H
        have Fe:(!(((qI l0 qj).f0)==((qI l1 qj).f0))||(!(((qI l0 qj).f1)==((qI l1 qj).f1))))=false:=by simpa using c7
        clear c7;have H':=Aside0.mk H;clear H;have U6:0<=(qj:Int):=je;have U7:qj<(l0.length:Int):=je;obtain ⟨Aps,Aj7,Aeo,Aep⟩:=at_T65 HR0.out qj U6 U7
        cases Aj7
        replace U6:=eq_true U6;replace U7:=eq_true U7;have U9:0<=(qj:Int):=je;have Va:qj<(l1.length:Int):=je;obtain ⟨Apt,Aj8,Aeq,Aer⟩:=at_T65 HR1.out qj U9 Va
        cases Aj8
        replace U9:=eq_true U9;replace Va:=eq_true Va
        go_wp2
        repeat (go_quiet (fail);try go_wp2)
        go_roundg k1
        case measure=>have:=Ff.out;omega
        case rel=>exact ⟨(wrap64 (qj+1)),(by first|rfl|(simp;done)|(simp [*];done)),H',⟨by have:=Ff.out;omega⟩,by repeat (first|exact bf.refl _|apply bf.step)⟩
      ·rw [aj c6] at H
       cases H
     ·rw [aj c5] at H
      cases H
    ·rw [aj c4] at H
     have qE:decide (qj<(l0.length:Int))=false:=jC c4;clear c4;obtain rfl:=eF H
     go_wp2
     repeat (go_quiet (fail);try go_wp2)
     go_ret
     exact ⟨by first|rfl|(simp;done)|(simp [*];done),by repeat (first|exact bf.refl _|apply bf.step)⟩
 ·rw [aj c3] at H
  have tY:((l0.length:Int)==(l1.length:Int))=false:=iM c3;have vI:((l0.length:Int) !=(l1.length:Int))=true:=pq c3;have Apr:(l0.length==l1.length)=false:=by first|simpa using c3|(simp at c3|-;omega)
  obtain rfl:=eF H
  go_enter Try.func37,Try.ntmps37
  go_wp2
  repeat (go_quiet (fail);try go_wp2)
  go_ret
  exact ⟨by first|rfl|(simp;done)|(simp [*];done),by repeat (first|exact bf.refl _|apply bf.step)⟩
end Go.Proofs.Ytkmimamminddiaa.PB
namespace Go.Proofs.Ytkmimamminddiaa.Pure
open Go.RowKit Go.Proofs.Ytkmimamminddiaa.PB Go.Proofs.YtkmimamminddiaaW.PrintWords Go.Proofs.YtkmimamminddiaaW.PrintLast
open Go.Proofs.Ytkmimamminddiaa.Spec Go.Proofs.Ytkmimamminddiaa.BytesEq
def tT (a b:Int) (x:List Int):Int:=norm (a / 65536+a % 65536+b / 65536+b % 65536+6+(x.length:Int) % 65536)+uI (words x)
theorem Yi {a b:Int} {x:List Int} (ha:0<=a) (hb:0<=b) (h:jX x):0<=tT a b x:=by
 have h1:=mM (a / 65536+a % 65536+b / 65536+b % 65536+6+(x.length:Int) % 65536) (by omega);have h2:=sU _ (iW x h);unfold tT
 omega
theorem yS {s d q k f w c u:Int} {o l:List Int} (hf:0<=f /\ f<=255) (ho:jX o) (hl:jX l):jX (sV s d q k f w c u o l):=(Yc hf).append (ho.append hl)
theorem wW (s d q k f w c u:Int) (o l:List Int):(sV s d q k f w c u o l).length=20+o.length+l.length:=by
 unfold sV;rw [List.length_append,List.length_append,P5]
 omega
section
variable {a b s d q k f w c u:Int} {o l:List Int}
theorem JF (h4:(o.length:Int) % 4=0) (NT:(o.length:Int)<=40) (hl:(l.length:Int)<=3000):X7 s d q k f w c u o l=(sV s d q k f w c u o l,0):=by
 unfold X7;rw [aj (by omega),aj (by omega)]
theorem AbM (ha:0<=a /\ a<=4294967295) (hb:0<=b /\ b<=4294967295) {x:List Int} (hx:jX x) (hl:x.length<=3100) (K:Nat) (hK:4000<=K):((nX.f K a b 6 (x.length:Int)).bind fun t=>(jw.f K t x).bind fun t2=>fP.f K t2)=some (norm (tT a b x)) /\ ((fM.f K a b 6 (x.length:Int)).bind fun t=>(bM.f K t x).bind fun t2=>bF.f K t2)=some (norm (tT a b x)):=by
 have hp:=mM (a / 65536+a % 65536+b / 65536+b % 65536+6+(x.length:Int) % 65536) (by omega);have hr:=qA (words x) _ hp.1 (by omega) (iW _ hx);have hn:=uk (words x) _ hp.1 (by omega) (iW _ hx)
 constructor
 ·rw [uJ.NS a b 6 _ ha hb (by omega) K (by omega),bG,uJ.add_eq _ _ hx (by omega) hp.1 (by omega) K (by omega),bG,uJ.fold_eq _ hr.1 hr.2 K (by omega),hn]
  rfl
 ·rw [uJ.FM a b 6 _ ha hb (by omega) K (by omega),bG,uJ.Eg _ _ hx (by omega) hp.1 (by omega) K (by omega),bG,uJ.yQ _ hr.1 hr.2 K (by omega),hn]
  rfl
theorem Yj (ha:0<=a /\ a<=4294967295) (hb:0<=b /\ b<=4294967295) (hf:0<=f /\ f<=255) (ho:jX o) (h4:(o.length:Int) % 4=0) (NT:(o.length:Int)<=40) (h:jX l) (hl:(l.length:Int)<=3000) (K:Nat) (hK:4000<=K):uj.f K a b s d q k f w c u o l=some (norm (tT a b (sV s d q k f w c u o l)),true):=by
 have hL:=wW s d q k f w c u o l;obtain ⟨x,hx⟩:∃ x,x=sV s d q k f w c u o l:=⟨_,rfl⟩
 have hB:jX x:=by rw [hx];exact yS hf ho h
 have h1:=(AbM ha hb hB (by rw [hx];omega) K hK).1;unfold uj.f;rw [Yb (by omega) (by omega) K (by omega),JF h4 NT hl,<- hx,bG];obtain ⟨t1,e1,h1⟩:=Option.bind_eq_some_iff.1 h1;obtain ⟨t2,e2,h1⟩:=Option.bind_eq_some_iff.1 h1
 dsimp only
 rw [e1,bG,e2,bG,h1,bG]
 rfl
theorem Yk (ha:0<=a /\ a<=4294967295) (hb:0<=b /\ b<=4294967295) (hf:0<=f /\ f<=255) (ho:jX o) (h4:(o.length:Int) % 4=0) (NT:(o.length:Int)<=40) (h:jX l) (hl:(l.length:Int)<=3000) (K:Nat) (hK:4000<=K):uY.f K a b s d q k f w c u o l=some (norm (tT a b (sV s d q k f w c u o l))==65535):=by
 unfold uY.f;rw [Yj ha hb hf ho h4 NT h hl K hK,bG,ah rfl]
theorem AbN (ha:0<=a /\ a<=4294967295) (hb:0<=b /\ b<=4294967295) (hf:0<=f /\ f<=255) (ho:jX o) (h4:(o.length:Int) % 4=0) (NT:(o.length:Int)<=40) (h:jX l) (hl:(l.length:Int)<=3000) (K:Nat) (hK:4000<=K):kS.f K a b s d q k f w c u o l=some (65535 - norm (tT a b (sV s d q k f w 0 u o l))):=by
 have hL:=wW s d q k f w 0 u o l;have hn:=mM _ (Yi ha.1 hb.1 (yS (s:=s) (d:=d) (q:=q) (k:=k) (w:=w) (c:=0) (u:=u) hf ho h));obtain ⟨x,hx⟩:∃ x,x=sV s d q k f w 0 u o l:=⟨_,rfl⟩
 have hB:jX x:=by rw [hx];exact yS hf ho h
 have h1:=(AbM ha hb hB (by rw [hx];omega) K hK).2;unfold kS.f;rw [<- hx] at hn|-
 rw [FH (by omega) (by omega) K (by omega),JF h4 NT hl,<- hx,bG];obtain ⟨t1,e1,h1⟩:=Option.bind_eq_some_iff.1 h1;obtain ⟨t2,e2,h1⟩:=Option.bind_eq_some_iff.1 h1
 dsimp only
 rw [ah rfl,e1,bG,e2,bG,h1,bG,show (IntKind.u16.max:Int)=65535 from rfl,JE hn.1 hn.2]
theorem Vb (ha:0<=a /\ a<=4294967295) (hb:0<=b /\ b<=4294967295) (hf:0<=f /\ f<=255) (ho:jX o) (h4:(o.length:Int) % 4=0) (NT:(o.length:Int)<=40) (h:jX l) (hl:(l.length:Int)<=3000) (K:Nat) (hK:4000<=K):nS.f K a b s d q k f w c u o l=some (norm (tT a b (sV s d q k f w c u o l))==65535):=by
 have hL:=wW s d q k f w c u o l;obtain ⟨x,hx⟩:∃ x,x=sV s d q k f w c u o l:=⟨_,rfl⟩
 have hB:jX x:=by rw [hx];exact yS hf ho h
 have h1:=(AbM ha hb hB (by rw [hx];omega) K hK).2;unfold nS.f;rw [<- hx,FH (by omega) (by omega) K (by omega),JF h4 NT hl,<- hx,bG];obtain ⟨t1,e1,h1⟩:=Option.bind_eq_some_iff.1 h1;obtain ⟨t2,e2,h1⟩:=Option.bind_eq_some_iff.1 h1
 dsimp only
 rw [ah rfl,e1,bG,e2,bG,h1,bG]
end
end Go.Proofs.Ytkmimamminddiaa.Pure
namespace Go.Proofs.Ytkmimamminddiaa.PB
open Go.RowKit Go.Proofs.YtkmimamminddiaaW.PrintWords Go.Proofs.YtkmimamminddiaaW.PrintLast Go.Proofs.YtkmimamminddiaaW.PrintMore
attribute [local go_sem] dV dW gI gJ dG dH dX dY
def nT.f (k:Nat) (a0:Int) (a1:Int) (fH:Int) (fJ:Int) (fF:Int) (jH:List Int):Option (Bool):=if fF=0 then (some true) else ((bU.f fH fJ fF jH).bind fun LY=>(if LY.2=0 then ((fM.f k a0 a1 17 (LY.1.length:Int)).bind fun Yl=>((bM.f k Yl LY.1).bind fun Ym=>((bF.f k Ym).bind fun AbO=>(some (AbO==65535))))) else (some false)))
theorem nT.calls (k:Nat) (a0:Int) (a1:Int) (fH:Int) (fJ:Int) (fF:Int) (pI:Option Addr) (pJ:Nat) (jH:List Int) (r:Bool) (w:World) (Df:Kd.C (Kd.int .u8) w pI jH.length jH) (Dh:jH.length<=pJ) (h:nT.f k a0 a1 fH fJ fF jH=some r):
  Calls Try.prog 40 #[.int .u32 a0,.int .u32 a1,.agg #[.int .u16 fH,.int .u16 fJ,.int .u16 fF,.slice pI jH.length pJ]] w fun e w'=>e= .returned (.bool r) /\ Below w.heap.size w w':=by
 have F7:=Try.underlying83;have Di:=Aside0.mk Df;have Dj:=Aside0.mk Dh;clear Df Dh;have HB:=jy w;have H:(if fF=0 then (some true) else ((bU.f fH fJ fF jH).bind fun LY=>(if LY.2=0 then ((fM.f k a0 a1 17 (LY.1.length:Int)).bind fun Yl=>((bM.f k Yl LY.1).bind fun Ym=>((bF.f k Ym).bind fun AbO=>(some (AbO==65535))))) else (some false))))=some r:=h;clear h
 by_cases c4:fF=0
 ·rw [ah c4] at H
  have qE:(fF==0)=true:=jf c4;have Eh:(fF !=0)=false:=oM c4;clear c4;obtain rfl:=eF H
  go_enter Try.func40,Try.ntmps40
  go_wp2_with (first|((with_reducible refine gate_dst (N:=5) rfl ?_);(try (refine eH (by rfl) ?_;dsimp only));refine box_event ?hg (N:=5) ?hd (cs:= #[.int .u16 fH,.int .u16 fJ,.int .u16 fF,.slice pI jH.length pJ]) (t:=83) ?hr ?_;(case hd=>rfl);(case hg=>rfl);(case hr=>first|(go_simp;done)|(go_simp;rfl));intro vC hg w5 hbox hb;have ay:=Aside0.mk (ag (bz HB) hb);have aC:=Aside0.mk (hbox);have bg:=Aside0.mk ((by rw [hg];exact (below_size (bz HB)):w.heap.size<=vC));have dm:=Aside0.mk ((by rw [hg];exact (below_size (bz HB)):w.heap.size<=vC));clear HB;have HB:=ay;have nN:=aC;have Agx:=bg;have Agy:=dm;clear ay aC bg dm;clear hb hbox hg;have OB:w5.cell? ⟨vC,0,none⟩=some (.int .u16 fH):=cz nN.out 0 rfl;have OC:w5.cell? ⟨vC,1,none⟩=some (.int .u16 fJ):=cz nN.out 1 rfl;have OD:w5.cell? ⟨vC,2,none⟩=some (.int .u16 fF):=cz nN.out 2 rfl;have OE:w5.cell? ⟨vC,3,none⟩=some (.slice pI jH.length pJ):=cz nN.out 3 rfl;have OG:=blk_frozen nN.out 0;have OH:=blk_frozen nN.out 1;have OI:=blk_frozen nN.out 2;have OJ:=blk_frozen nN.out 3))
  go_ret
  exact ⟨by first|rfl|(simp [ae,af]<;>rfl)|(simp [*,ae,af]<;>rfl),bz HB⟩
 ·rw [aj c4] at H
  have qE:(fF==0)=false:=iM c4;have Eh:(fF !=0)=true:=pq c4;replace H:=dM H;obtain ⟨⟨Aes,Vd⟩,Iq,H⟩:=H
  (try dsimp -simprocs only at H)
  have A7:=Aside0.mk Iq;clear Iq
  by_cases c8:Vd=0
  ·rw [ah c8] at H
   have uf:(Vd==0)=true:=jf c8;have JW:(Vd !=0)=false:=oM c8;clear c8;replace H:=dM H;obtain ⟨Yl,A90,H⟩:=H
   (try dsimp -simprocs only at H)
   have A9:=Aside0.mk A90;clear A90;replace H:=dM H;obtain ⟨Ym,Gg,H⟩:=H
   (try dsimp -simprocs only at H)
   have Ue:=Aside0.mk Gg;clear Gg;replace H:=dM H;obtain ⟨AbO,QI,H⟩:=H
   (try dsimp -simprocs only at H)
   have A11:=Aside0.mk QI;clear QI;obtain rfl:=eF H
   go_enter Try.func40,Try.ntmps40
   go_wp2_with (first|((with_reducible refine gate_dst (N:=5) rfl ?_);(try (refine eH (by rfl) ?_;dsimp only));refine box_event ?hg (N:=5) ?hd (cs:= #[.int .u16 fH,.int .u16 fJ,.int .u16 fF,.slice pI jH.length pJ]) (t:=83) ?hr ?_;(case hd=>rfl);(case hg=>rfl);(case hr=>first|(go_simp;done)|(go_simp;rfl));intro vC hg w12 hbox hb;have ay:=Aside0.mk (ag (bz HB) hb);have aC:=Aside0.mk (hbox);have bg:=Aside0.mk ((by rw [hg];exact (below_size (bz HB)):w.heap.size<=vC));have dm:=Aside0.mk ((by rw [hg];exact (below_size (bz HB)):w.heap.size<=vC));clear HB;have HB:=ay;have nN:=aC;have Agx:=bg;have Agy:=dm;clear ay aC bg dm;clear hb hbox hg;have OL:w12.cell? ⟨vC,0,none⟩=some (.int .u16 fH):=cz nN.out 0 rfl;have OM:w12.cell? ⟨vC,1,none⟩=some (.int .u16 fJ):=cz nN.out 1 rfl;have OO:w12.cell? ⟨vC,2,none⟩=some (.int .u16 fF):=cz nN.out 2 rfl;have OQ:w12.cell? ⟨vC,3,none⟩=some (.slice pI jH.length pJ):=cz nN.out 3 rfl;have OT:=blk_frozen nN.out 0;have OU:=blk_frozen nN.out 1;have OV:=blk_frozen nN.out 2;have OW:=blk_frozen nN.out 3)|((with_reducible refine ai (f:=48) rfl ?_);refine gL 14 Try.func48 #[.agg #[.int .u16 fH,.int .u16 fJ,.int .u16 fF,.slice pI jH.length pJ]] ?_;(with_reducible refine (bU.calls fH fJ fF _ _ jH Aes Vd _ ?au ?ax A7.out).mono ?_);(case au=>exact Kd.aJ Di.out (bz HB));(case ax=>exact Dj.out);rintro e w14 ⟨Avs,rfl,ho0,hb⟩;refine ⟨_,rfl, ?_⟩;have ay:=Aside0.mk (Kd.R_lower ho0 (below_size (bz HB)));have aC:=Aside0.mk (aZ (kz nN) hb);have bg:=Aside0.mk (ag (bz HB) hb);clear nN;clear HB;have LZ:=ay;have nN:=aC;have HB:=bg;clear ay aC bg;(try clear hb);(try clear hb2);(try clear hk);(try clear hi);(try clear ho0);obtain ⟨Adx,Ady,Adz⟩:=Kd.dN LZ.out;subst Adz)|(go_at_call 82;(with_reducible refine (fM.calls k a0 a1 17 (Aes.length:Int) Yl _ A9.out).mono ?_);rintro e w' ⟨rfl,⟨nd,rfl⟩⟩)|(go_at_call 80;(with_reducible refine (bM.calls k Yl _ _ Aes Ym _ ?au ?ax Ue.out).mono ?_);(case au=>repeat (first|exact (Kd.R_reads' LZ.out).2.2|(with_reducible refine Kd.iL ?_ _)|(with_reducible refine Kd.iD ?_ _)|(with_reducible refine Kd.jE ?_)));(case ax=>exact (Kd.R_reads' LZ.out).2.1);rintro e w16 ⟨rfl,hb⟩;have ay:=Aside0.mk (Kd.jd (Kd.rz LZ) hb);have aC:=Aside0.mk (aZ (kz nN) hb);have bg:=Aside0.mk (ag (bz HB) hb);clear LZ;clear nN;clear HB;have LZ:=ay;have nN:=aC;have HB:=bg;clear ay aC bg;(try clear hb);(try clear hb2);(try clear hk);(try clear hi))|(go_at_call 79;(with_reducible refine (bF.calls k Ym AbO _ A11.out).mono ?_);rintro e w' ⟨rfl,⟨nd,rfl⟩⟩))
   go_ret
   exact ⟨by first|rfl|(simp [ae,af]<;>rfl)|(simp [*,ae,af]<;>rfl),bz HB⟩
  ·rw [aj c8] at H
   have uf:(Vd==0)=false:=iM c8;have JW:(Vd !=0)=true:=pq c8;obtain rfl:=eF H
   go_enter Try.func40,Try.ntmps40
   go_wp2_with (first|((with_reducible refine gate_dst (N:=5) rfl ?_);(try (refine eH (by rfl) ?_;dsimp only));refine box_event ?hg (N:=5) ?hd (cs:= #[.int .u16 fH,.int .u16 fJ,.int .u16 fF,.slice pI jH.length pJ]) (t:=83) ?hr ?_;(case hd=>rfl);(case hg=>rfl);(case hr=>first|(go_simp;done)|(go_simp;rfl));intro vC hg w17 hbox hb;have ay:=Aside0.mk (ag (bz HB) hb);have aC:=Aside0.mk (hbox);have bg:=Aside0.mk ((by rw [hg];exact (below_size (bz HB)):w.heap.size<=vC));have dm:=Aside0.mk ((by rw [hg];exact (below_size (bz HB)):w.heap.size<=vC));clear HB;have HB:=ay;have nN:=aC;have Agx:=bg;have Agy:=dm;clear ay aC bg dm;clear hb hbox hg;have Wj:w17.cell? ⟨vC,0,none⟩=some (.int .u16 fH):=cz nN.out 0 rfl;have Wl:w17.cell? ⟨vC,1,none⟩=some (.int .u16 fJ):=cz nN.out 1 rfl;have Wn:w17.cell? ⟨vC,2,none⟩=some (.int .u16 fF):=cz nN.out 2 rfl;have Wp:w17.cell? ⟨vC,3,none⟩=some (.slice pI jH.length pJ):=cz nN.out 3 rfl;have Wq:=blk_frozen nN.out 0;have Ws:=blk_frozen nN.out 1;have Wu:=blk_frozen nN.out 2;have Wv:=blk_frozen nN.out 3)|((with_reducible refine ai (f:=48) rfl ?_);refine gL 14 Try.func48 #[.agg #[.int .u16 fH,.int .u16 fJ,.int .u16 fF,.slice pI jH.length pJ]] ?_;(with_reducible refine (bU.calls fH fJ fF _ _ jH Aes Vd _ ?au ?ax A7.out).mono ?_);(case au=>exact Kd.aJ Di.out (bz HB));(case ax=>exact Dj.out);rintro e w19 ⟨Avs,rfl,ho0,hb⟩;refine ⟨_,rfl, ?_⟩;have ay:=Aside0.mk (Kd.R_lower ho0 (below_size (bz HB)));have aC:=Aside0.mk (aZ (kz nN) hb);have bg:=Aside0.mk (ag (bz HB) hb);clear nN;clear HB;have LZ:=ay;have nN:=aC;have HB:=bg;clear ay aC bg;(try clear hb);(try clear hb2);(try clear hk);(try clear hi);(try clear ho0)))
   go_ret
   exact ⟨by first|rfl|(simp [ae,af]<;>rfl)|(simp [*,ae,af]<;>rfl),bz HB⟩
attribute [local go_sem] dV dW gI gJ dG dH dX dY
def um.f (l0:List Int):Option (Int×Int×Int×List Int×Int):=if (l0.length:Int)<8 then (some (0,0,0,([]:List Int),20)) else ((aN.f l0 4).bind fun BO=>(if (wrap64 (BO))<8 then (some (0,0,0,([]:List Int),21)) else (if (l0.length:Int)<(wrap64 (BO)) then (some (0,0,0,([]:List Int),20)) else ((aN.f l0 0).bind fun Nb=>((aN.f l0 2).bind fun P6=>((aN.f l0 6).bind fun Tm=>((fK.f l0 8 (wrap64 (BO))).bind fun Ve=>(some (Nb,P6,Tm,Ve,0)))))))))
theorem um.calls (A0:Option Addr) (c0:Nat) (l0:List Int) (r1:Int) (r2:Int) (r3:Int) (r4:List Int) (r5:Int) (w:World) (hr0:Kd.C (Kd.int .u8) w A0 l0.length l0) (hc0:l0.length<=c0) (h:um.f l0=some (r1,r2,r3,r4,r5)):
  Calls Try.prog 39 #[.slice A0 l0.length c0] w fun e w'=>∃ v3_:Value,e= .returned (.tuple #[.agg #[.int .u16 r1,.int .u16 r2,.int .u16 r3,v3_],.int .i64 r5]) /\ Kd.R (Kd.int .u8) 5 w' w.heap.size (fun _=>True) v3_ r4 /\ Below w.heap.size w w':=by
 have F7:=Try.underlying83;have HR0:=Aside0.mk hr0;have mg:=Aside0.mk hc0;clear hr0 hc0;have HB:=jy w;have H:(if (l0.length:Int)<8 then (some (0,0,0,([]:List Int),20)) else ((aN.f l0 4).bind fun BO=>(if (wrap64 (BO))<8 then (some (0,0,0,([]:List Int),21)) else (if (l0.length:Int)<(wrap64 (BO)) then (some (0,0,0,([]:List Int),20)) else ((aN.f l0 0).bind fun Nb=>((aN.f l0 2).bind fun P6=>((aN.f l0 6).bind fun Tm=>((fK.f l0 8 (wrap64 (BO))).bind fun Ve=>(some (Nb,P6,Tm,Ve,0))))))))))=some (r1,r2,r3,r4,r5):=h;clear h
 by_cases c2:(l0.length:Int)<8
 ·rw [ah c2] at H
  have nV:decide ((l0.length:Int)<8)=true:=bJ c2;have qQ:decide (l0.length<8)=true:=bJ (by omega);clear c2;simp only [Option.some.injEq,Prod.mk.injEq] at H
  obtain ⟨rfl,rfl,rfl,rfl,rfl⟩:=H
  go_enter Try.func39,Try.ntmps39
  go_wp2_with (first|((with_reducible refine gate_dst (N:=2) rfl ?_);refine box_event ?hg (N:=2) ?hd (cs:= #[.int .u16 0,.int .u16 0,.int .u16 0,.slice none 0 0]) (t:=83) ?hr ?_;(case hd=>rfl);(case hg=>rfl);(case hr=>first|(go_simp;done)|(go_simp;rfl));intro lg hg w3 hbox hb;have ay:=Aside0.mk (ag (bz HB) hb);have aC:=Aside0.mk (hbox);have bg:=Aside0.mk ((by rw [hg];exact (below_size (bz HB)):w.heap.size<=lg));have dm:=Aside0.mk ((by rw [hg];exact (below_size (bz HB)):w.heap.size<=lg));clear HB;have HB:=ay;have jb:=aC;have AbP:=bg;have AbQ:=dm;clear ay aC bg dm;clear hb hbox hg;have vK:w3.cell? ⟨lg,0,none⟩=some (.int .u16 0):=cz jb.out 0 rfl;have vM:w3.cell? ⟨lg,1,none⟩=some (.int .u16 0):=cz jb.out 1 rfl;have vN:w3.cell? ⟨lg,2,none⟩=some (.int .u16 0):=cz jb.out 2 rfl;have vO:w3.cell? ⟨lg,3,none⟩=some (.slice none 0 0):=cz jb.out 3 rfl;have vP:=blk_frozen jb.out 0;have vS:=blk_frozen jb.out 1;have vT:=blk_frozen jb.out 2;have vU:=blk_frozen jb.out 3))
  refine bodyPost_ret (iJ rfl _ _ lg 83 #[.int .u16 0,.int .u16 0,.int .u16 0,.slice none 0 0] (0,0) _ rfl (by (repeat (first|with_reducible refine aH ?_ _|with_reducible refine az ?_|with_reducible refine aG ?_ _|refine bH (cs:= #[.int .u16 0,.int .u16 0,.int .u16 0,.slice none 0 0]) ?_ _ _ rfl));(with_reducible repeat (first|refine aH ?_ _|refine az ?_|refine aG ?_ _));exact jb.out) Try.underlying83 rfl (by kernel_rfl)) rfl ?_;exact ⟨_,by first|rfl|(simp [ae,af]<;>rfl)|(simp [*,ae,af]<;>rfl),by first|exact Kd.bV _ _ _ _ _|exact Kd.lV _ _ _ _ _|exact Kd.lW _ _ _ _ _|exact Kd.lT _ _ _ _ _|exact Kd.lU _ _ _ _ _,bz HB⟩
 ·rw [aj c2] at H
  have nV:decide ((l0.length:Int)<8)=false:=jC c2;have qQ:decide (l0.length<8)=false:=jC (by omega);clear c2;replace H:=dM H;obtain ⟨BO,Kq,H⟩:=H
  (try dsimp -simprocs only at H)
  have A5:=Aside0.mk Kq;clear Kq
  by_cases c6:(wrap64 (BO))<8
  ·rw [ah c6] at H
   have yY:decide ((wrap64 (BO))<8)=true:=bJ c6;clear c6;simp only [Option.some.injEq,Prod.mk.injEq] at H
   obtain ⟨rfl,rfl,rfl,rfl,rfl⟩:=H
   go_enter Try.func39,Try.ntmps39
   go_wp2_with (first|((with_reducible refine gate_dst (N:=2) rfl ?_);refine box_event ?hg (N:=2) ?hd (cs:= #[.int .u16 0,.int .u16 0,.int .u16 0,.slice none 0 0]) (t:=83) ?hr ?_;(case hd=>rfl);(case hg=>rfl);(case hr=>first|(go_simp;done)|(go_simp;rfl));intro lg hg w7 hbox hb;have ay:=Aside0.mk (ag (bz HB) hb);have aC:=Aside0.mk (hbox);have bg:=Aside0.mk ((by rw [hg];exact (below_size (bz HB)):w.heap.size<=lg));have dm:=Aside0.mk ((by rw [hg];exact (below_size (bz HB)):w.heap.size<=lg));clear HB;have HB:=ay;have jb:=aC;have AbP:=bg;have AbQ:=dm;clear ay aC bg dm;clear hb hbox hg)|((with_reducible refine ai (f:=64) rfl ?_);refine gL 10 Try.func64 #[.slice A0 l0.length c0,.int .i64 4] ?_;(with_reducible refine (aN.calls _ _ l0 4 BO _ ?au ?ax A5.out).mono ?_);(case au=>exact Kd.aJ HR0.out (bz HB));(case ax=>exact mg.out);rintro e w' ⟨rfl,⟨nd,rfl⟩⟩;refine ⟨_,rfl, ?_⟩;(try (rw [iC w7];generalize nO:World.drewN w7 _=w7;have ay:Aside0 (w7.heap[lg]?=some (.cells #[.int .u16 0,.int .u16 0,.int .u16 0,.slice none 0 0] 83 (0,0))):=⟨by rw [<- nO];exact (kz jb)⟩;have aC:Aside0 (Below w.heap.size w w7):=⟨by rw [<- nO];exact bz HB⟩;clear jb HB nO;have jb:=ay;have HB:=aC;clear ay aC));have Ug:w7.cell? ⟨lg,0,none⟩=some (.int .u16 0):=cz jb.out 0 rfl;have Uh:w7.cell? ⟨lg,1,none⟩=some (.int .u16 0):=cz jb.out 1 rfl;have Ui:w7.cell? ⟨lg,2,none⟩=some (.int .u16 0):=cz jb.out 2 rfl;have Uj:w7.cell? ⟨lg,3,none⟩=some (.slice none 0 0):=cz jb.out 3 rfl;have Uk:=blk_frozen jb.out 0;have Ul:=blk_frozen jb.out 1;have Um:=blk_frozen jb.out 2;have Un:=blk_frozen jb.out 3))
   refine bodyPost_ret (iJ rfl _ _ lg 83 #[.int .u16 0,.int .u16 0,.int .u16 0,.slice none 0 0] (0,0) _ rfl (by (repeat (first|with_reducible refine aH ?_ _|with_reducible refine az ?_|with_reducible refine aG ?_ _|refine bH (cs:= #[.int .u16 0,.int .u16 0,.int .u16 0,.slice none 0 0]) ?_ _ _ rfl));(with_reducible repeat (first|refine aH ?_ _|refine az ?_|refine aG ?_ _));exact jb.out) Try.underlying83 rfl (by kernel_rfl)) rfl ?_;exact ⟨_,by first|rfl|(simp [ae,af]<;>rfl)|(simp [*,ae,af]<;>rfl),by first|exact Kd.bV _ _ _ _ _|exact Kd.lV _ _ _ _ _|exact Kd.lW _ _ _ _ _|exact Kd.lT _ _ _ _ _|exact Kd.lU _ _ _ _ _,bz HB⟩
  ·rw [aj c6] at H
   have yY:decide ((wrap64 (BO))<8)=false:=jC c6;clear c6
   by_cases c9:(l0.length:Int)<(wrap64 (BO))
   ·rw [ah c9] at H
    have CW:decide ((l0.length:Int)<(wrap64 (BO)))=true:=bJ c9;clear c9;simp only [Option.some.injEq,Prod.mk.injEq] at H
    obtain ⟨rfl,rfl,rfl,rfl,rfl⟩:=H
    go_enter Try.func39,Try.ntmps39
    go_wp2_with (first|((with_reducible refine gate_dst (N:=2) rfl ?_);refine box_event ?hg (N:=2) ?hd (cs:= #[.int .u16 0,.int .u16 0,.int .u16 0,.slice none 0 0]) (t:=83) ?hr ?_;(case hd=>rfl);(case hg=>rfl);(case hr=>first|(go_simp;done)|(go_simp;rfl));intro lg hg w10 hbox hb;have ay:=Aside0.mk (ag (bz HB) hb);have aC:=Aside0.mk (hbox);have bg:=Aside0.mk ((by rw [hg];exact (below_size (bz HB)):w.heap.size<=lg));have dm:=Aside0.mk ((by rw [hg];exact (below_size (bz HB)):w.heap.size<=lg));clear HB;have HB:=ay;have jb:=aC;have AbP:=bg;have AbQ:=dm;clear ay aC bg dm;clear hb hbox hg)|((with_reducible refine ai (f:=64) rfl ?_);refine gL 10 Try.func64 #[.slice A0 l0.length c0,.int .i64 4] ?_;(with_reducible refine (aN.calls _ _ l0 4 BO _ ?au ?ax A5.out).mono ?_);(case au=>exact Kd.aJ HR0.out (bz HB));(case ax=>exact mg.out);rintro e w' ⟨rfl,⟨nd,rfl⟩⟩;refine ⟨_,rfl, ?_⟩;(try (rw [iC w10];generalize nO:World.drewN w10 _=w10;have ay:Aside0 (w10.heap[lg]?=some (.cells #[.int .u16 0,.int .u16 0,.int .u16 0,.slice none 0 0] 83 (0,0))):=⟨by rw [<- nO];exact (kz jb)⟩;have aC:Aside0 (Below w.heap.size w w10):=⟨by rw [<- nO];exact bz HB⟩;clear jb HB nO;have jb:=ay;have HB:=aC;clear ay aC));have DW:w10.cell? ⟨lg,0,none⟩=some (.int .u16 0):=cz jb.out 0 rfl;have DX:w10.cell? ⟨lg,1,none⟩=some (.int .u16 0):=cz jb.out 1 rfl;have DY:w10.cell? ⟨lg,2,none⟩=some (.int .u16 0):=cz jb.out 2 rfl;have DZ:w10.cell? ⟨lg,3,none⟩=some (.slice none 0 0):=cz jb.out 3 rfl;have D9:=blk_frozen jb.out 0;have Ea:=blk_frozen jb.out 1;have Eb:=blk_frozen jb.out 2;have Ec:=blk_frozen jb.out 3))
    refine bodyPost_ret (iJ rfl _ _ lg 83 #[.int .u16 0,.int .u16 0,.int .u16 0,.slice none 0 0] (0,0) _ rfl (by (repeat (first|with_reducible refine aH ?_ _|with_reducible refine az ?_|with_reducible refine aG ?_ _|refine bH (cs:= #[.int .u16 0,.int .u16 0,.int .u16 0,.slice none 0 0]) ?_ _ _ rfl));(with_reducible repeat (first|refine aH ?_ _|refine az ?_|refine aG ?_ _));exact jb.out) Try.underlying83 rfl (by kernel_rfl)) rfl ?_;exact ⟨_,by first|rfl|(simp [ae,af]<;>rfl)|(simp [*,ae,af]<;>rfl),by first|exact Kd.bV _ _ _ _ _|exact Kd.lV _ _ _ _ _|exact Kd.lW _ _ _ _ _|exact Kd.lT _ _ _ _ _|exact Kd.lU _ _ _ _ _,bz HB⟩
   ·rw [aj c9] at H
    have CW:decide ((l0.length:Int)<(wrap64 (BO)))=false:=jC c9;clear c9;replace H:=dM H;obtain ⟨Nb,Gh,H⟩:=H
    (try dsimp -simprocs only at H)
    have A12:=Aside0.mk Gh;clear Gh;replace H:=dM H;obtain ⟨P6,J6,H⟩:=H
    (try dsimp -simprocs only at H)
    have YB:=Aside0.mk J6;clear J6;replace H:=dM H;obtain ⟨Tm,JX,H⟩:=H
    (try dsimp -simprocs only at H)
    have A14:=Aside0.mk JX;clear JX;replace H:=dM H;obtain ⟨Ve,Ld,H⟩:=H
    (try dsimp -simprocs only at H)
    have A15:=Aside0.mk Ld;clear Ld;simp only [Option.some.injEq,Prod.mk.injEq] at H
    obtain ⟨rfl,rfl,rfl,rfl,rfl⟩:=H
    go_enter Try.func39,Try.ntmps39
    go_wp2_with (first|((with_reducible refine gate_dst (N:=2) rfl ?_);refine box_event ?hg (N:=2) ?hd (cs:= #[.int .u16 0,.int .u16 0,.int .u16 0,.slice none 0 0]) (t:=83) ?hr ?_;(case hd=>rfl);(case hg=>rfl);(case hr=>first|(go_simp;done)|(go_simp;rfl));intro lg hg w16 hbox hb;have ay:=Aside0.mk (ag (bz HB) hb);have aC:=Aside0.mk (hbox);have bg:=Aside0.mk ((by rw [hg];exact (below_size (bz HB)):w.heap.size<=lg));have dm:=Aside0.mk ((by rw [hg];exact (below_size (bz HB)):w.heap.size<=lg));clear HB;have HB:=ay;have jb:=aC;have AbP:=bg;have AbQ:=dm;clear ay aC bg dm;clear hb hbox hg)|((with_reducible refine ai (f:=64) rfl ?_);refine gL 10 Try.func64 #[.slice A0 l0.length c0,.int .i64 4] ?_;(with_reducible refine (aN.calls _ _ l0 4 BO _ ?au ?ax A5.out).mono ?_);(case au=>exact Kd.aJ HR0.out (bz HB));(case ax=>exact mg.out);rintro e w' ⟨rfl,⟨nd,rfl⟩⟩;refine ⟨_,rfl, ?_⟩;(try (rw [iC w16];generalize nO:World.drewN w16 _=w16;have ay:Aside0 (w16.heap[lg]?=some (.cells #[.int .u16 0,.int .u16 0,.int .u16 0,.slice none 0 0] 83 (0,0))):=⟨by rw [<- nO];exact (kz jb)⟩;have aC:Aside0 (Below w.heap.size w w16):=⟨by rw [<- nO];exact bz HB⟩;clear jb HB nO;have jb:=ay;have HB:=aC;clear ay aC)))|((with_reducible refine ai (f:=64) rfl ?_);refine gL 21 Try.func64 #[.slice A0 l0.length c0,.int .i64 0] ?_;(with_reducible refine (aN.calls _ _ l0 0 Nb _ ?au ?ax A12.out).mono ?_);(case au=>exact Kd.aJ HR0.out (bz HB));(case ax=>exact mg.out);rintro e w' ⟨rfl,⟨nd,rfl⟩⟩;refine ⟨_,rfl, ?_⟩;(try (rw [iC w16];generalize nO:World.drewN w16 _=w16;have ay:Aside0 (w16.heap[lg]?=some (.cells #[.int .u16 0,.int .u16 0,.int .u16 0,.slice none 0 0] 83 (0,0))):=⟨by rw [<- nO];exact (kz jb)⟩;have aC:Aside0 (Below w.heap.size w w16):=⟨by rw [<- nO];exact bz HB⟩;clear jb HB nO;have jb:=ay;have HB:=aC;clear ay aC)))|((with_reducible refine ai (f:=64) rfl ?_);refine gL 23 Try.func64 #[.slice A0 l0.length c0,.int .i64 2] ?_;(with_reducible refine (aN.calls _ _ l0 2 P6 _ ?au ?ax YB.out).mono ?_);(case au=>exact Kd.aJ HR0.out (bz HB));(case ax=>exact mg.out);rintro e w' ⟨rfl,⟨nd,rfl⟩⟩;refine ⟨_,rfl, ?_⟩;(try (rw [iC w16];generalize nO:World.drewN w16 _=w16;have ay:Aside0 (w16.heap[lg]?=some (.cells #[.int .u16 0,.int .u16 0,.int .u16 0,.slice none 0 0] 83 (0,0))):=⟨by rw [<- nO];exact (kz jb)⟩;have aC:Aside0 (Below w.heap.size w w16):=⟨by rw [<- nO];exact bz HB⟩;clear jb HB nO;have jb:=ay;have HB:=aC;clear ay aC)))|((with_reducible refine ai (f:=64) rfl ?_);refine gL 25 Try.func64 #[.slice A0 l0.length c0,.int .i64 6] ?_;(with_reducible refine (aN.calls _ _ l0 6 Tm _ ?au ?ax A14.out).mono ?_);(case au=>exact Kd.aJ HR0.out (bz HB));(case ax=>exact mg.out);rintro e w' ⟨rfl,⟨nd,rfl⟩⟩;refine ⟨_,rfl, ?_⟩;(try (rw [iC w16];generalize nO:World.drewN w16 _=w16;have ay:Aside0 (w16.heap[lg]?=some (.cells #[.int .u16 0,.int .u16 0,.int .u16 0,.slice none 0 0] 83 (0,0))):=⟨by rw [<- nO];exact (kz jb)⟩;have aC:Aside0 (Below w.heap.size w w16):=⟨by rw [<- nO];exact bz HB⟩;clear jb HB nO;have jb:=ay;have HB:=aC;clear ay aC)))|((with_reducible refine ai (f:=65) rfl ?_);refine gL 28 Try.func65 #[.slice A0 l0.length c0,.int .i64 8,.int .i64 (wrap64 (BO))] ?_;(with_reducible refine (fK.calls _ _ l0 8 (wrap64 (BO)) Ve _ ?au ?ax A15.out).mono ?_);(case au=>exact Kd.aJ HR0.out (bz HB));(case ax=>exact mg.out);rintro e w17 ⟨AAF,rfl,ho0,hb⟩;refine ⟨_,rfl, ?_⟩;have ay:=Aside0.mk (Kd.R_lower ho0 (below_size (bz HB)));have aC:=Aside0.mk (aZ (kz jb) hb);have bg:=Aside0.mk (ag (bz HB) hb);clear jb;clear HB;have Agz:=ay;have jb:=aC;have HB:=bg;clear ay aC bg;(try clear hb);(try clear hb2);(try clear hk);(try clear hi);(try clear ho0);obtain ⟨AdB,AdC,Ajp⟩:=Kd.dN Agz.out;subst Ajp;have Ar5:w17.cell? ⟨lg,0,none⟩=some (.int .u16 0):=cz jb.out 0 rfl;have Ar6:w17.cell? ⟨lg,1,none⟩=some (.int .u16 0):=cz jb.out 1 rfl;have Ar7:w17.cell? ⟨lg,2,none⟩=some (.int .u16 0):=cz jb.out 2 rfl;have Ar8:w17.cell? ⟨lg,3,none⟩=some (.slice none 0 0):=cz jb.out 3 rfl;have Ar9:=blk_frozen jb.out 0;have Asa:=blk_frozen jb.out 1;have Asb:=blk_frozen jb.out 2;have Asc:=blk_frozen jb.out 3))
    refine bodyPost_ret (iJ rfl _ _ lg 83 #[.int .u16 Nb,.int .u16 P6,.int .u16 Tm,.slice AdB Ve.length AdC] (0,0) _ rfl (by (with_reducible repeat (first|refine aH ?_ _|refine az ?_|refine aG ?_ _));refine bH (cs:= #[.int .u16 Nb,.int .u16 P6,.int .u16 Tm,.slice none 0 0]) ?_ 3 _ rfl;(with_reducible repeat (first|refine aH ?_ _|refine az ?_|refine aG ?_ _));refine bH (cs:= #[.int .u16 Nb,.int .u16 P6,.int .u16 0,.slice none 0 0]) ?_ 2 _ rfl;(with_reducible repeat (first|refine aH ?_ _|refine az ?_|refine aG ?_ _));refine bH (cs:= #[.int .u16 Nb,.int .u16 0,.int .u16 0,.slice none 0 0]) ?_ 1 _ rfl;(with_reducible repeat (first|refine aH ?_ _|refine az ?_|refine aG ?_ _));refine bH (cs:= #[.int .u16 0,.int .u16 0,.int .u16 0,.slice none 0 0]) ?_ 0 _ rfl;(with_reducible repeat (first|refine aH ?_ _|refine az ?_|refine aG ?_ _));exact jb.out) Try.underlying83 rfl (by kernel_rfl)) rfl ?_
    exact ⟨_,by first|rfl|(simp [ae,af]<;>rfl)|(simp [*,ae,af]<;>rfl),by (with_reducible repeat (first|apply Kd.ik|apply Kd.gV|apply Kd.iq));exact Kd.R_mono (Kd.gB (p:=⟨lg,3,none⟩) (Kd.gB (p:=⟨lg,2,none⟩) (Kd.gB (p:=⟨lg,1,none⟩) (Kd.gB (p:=⟨lg,0,none⟩) (Kd.qY Agz.out jb.out (by decide)) (fun _ hk=>hk.2) (.int .u16 Nb)) (fun _ hk=>hk.2) (.int .u16 P6)) (fun _ hk=>hk.2) (.int .u16 Tm)) (fun _ hk=>hk.2) (.slice AdB Ve.length AdC)) (fun _ hk=>trivial),bz HB⟩
end Go.Proofs.Ytkmimamminddiaa.PB
namespace Go.Proofs.Ytkmimamminddiaa.Pure
open Go.RowKit Go.Proofs.Ytkmimamminddiaa.PB Go.Proofs.YtkmimamminddiaaW.PrintWords Go.Proofs.YtkmimamminddiaaW.PrintLast
open Go.Proofs.Ytkmimamminddiaa.Spec Go.Proofs.Ytkmimamminddiaa.BytesEq
theorem JG {l:List Int} (h:jX l) (a b:Nat) (hab:b=a+2) (hb:b<=l.length):oU.f ((l.take b).drop a)=some (g16 l a):=by
 subst hab;unfold oU.f;have hlen:((l.take (a+2)).drop a).length=2:=by rw [List.length_drop,List.length_take];omega
 rw [hlen,ah (by omega),ah (by omega),PZ l a (a+2) 0 0 rfl (by omega),PZ l a (a+2) 1 1 rfl (by omega),LP (h.getD (a+0)) (h.getD (a+1))]
 rfl
def udg (l:List Int):Int×Int×Int×List Int×Int:=
 if l.length<8 then (0,0,0,[],20) else if g16 l 4<8 then (0,0,0,[],21) else if (l.length:Int)<g16 l 4 then (0,0,0,[],20) else (g16 l 0,g16 l 2,g16 l 6,(l.take (g16 l 4).toNat).drop 8,0)
theorem Yn {l:List Int} (h:jX l) (hl:l.length<=1000000000):lH.f l=some (udg l):=by
 unfold lH.f udg
 by_cases h8:l.length<8
 ·rw [ah (by omega),ah h8]
 ·have hg:=iY h 4
  rw [aj (by omega),aj h8,ah (by omega),JG h 4 6 rfl (by omega)];simp only [bG];rw [bQ (n:=g16 l 4) (by omega) (by omega)]
  by_cases c1:g16 l 4<8
  ·rw [ah c1,ah c1]
  ·rw [aj c1,aj c1]
   by_cases c2:(l.length:Int)<g16 l 4
   ·rw [ah c2,ah c2]
   ·rw [aj c2,aj c2,ah (by omega),JG h 0 2 rfl (by omega)]
    simp only [bG];rw [ah (by omega),JG h 2 4 rfl (by omega)];simp only [bG];rw [ah (by omega),JG h 6 8 rfl (by omega)];simp only [bG];rw [ah (by omega),ah (by omega),GR _ (by rw [List.length_drop,List.length_take];omega)];simp only [bG]
theorem Vf {l:List Int} (h:jX l) (hl:l.length<=1000000000):um.f l=some (udg l):=by
 unfold um.f udg
 by_cases h8:l.length<8
 ·rw [ah (by omega),ah h8]
 ·have hg:=iY h 4
  have e0:=kG h 0 (by omega) hl;have e2:=kG h 2 (by omega) hl;have e4:=kG h 4 (by omega) hl;have e6:=kG h 6 (by omega) hl;rw [show ((0:Nat):Int)=0 from rfl] at e0
  rw [show ((2:Nat):Int)=2 from rfl] at e2
  rw [show ((4:Nat):Int)=4 from rfl] at e4
  rw [show ((6:Nat):Int)=6 from rfl] at e6
  rw [aj (by omega),aj h8,e4];simp only [bG];rw [bQ (n:=g16 l 4) (by omega) (by omega)]
  by_cases c1:g16 l 4<8
  ·rw [ah c1,ah c1]
  ·rw [aj c1,aj c1]
   by_cases c2:(l.length:Int)<g16 l 4
   ·rw [ah c2,ah c2]
   ·have e8:=H9 l 8 (g16 l 4).toNat (by omega) (by omega) hl
    rw [show ((8:Nat):Int)=8 from rfl,Int.toNat_of_nonneg hg.1] at e8
    rw [aj c2,aj c2,e0,e2,e6,e8];simp only [bG]
def rC (s d c:Int) (l:List Int):List Int:=[s / 256 % 256,s % 256,d / 256 % 256,d % 256,(8+(l.length:Int)) / 256 % 256,(8+(l.length:Int)) % 256,c / 256 % 256,c % 256]++l
theorem Yo (s d c:Int) {l:List Int} (hl:l.length<=1000000000):ug.f s d c l=if (l.length:Int)>65527 then some ([],23) else some (rC s d c l,0):=by
 unfold ug.f rC;rw [bQ (by omega) (by omega)]
 by_cases h:(l.length:Int)>65527
 ·rw [ah (by omega),ah h]
 ·rw [aj (by omega),aj h]
  simp only [bG,List.length_cons,List.length_nil];rw [ah (by omega)]
theorem BP (s d c:Int) {l:List Int} (hl:l.length<=1000000000):bU.f s d c l=if (l.length:Int)>65527 then some ([],23) else some (rC s d c l,0):=by
 unfold bU.f aY.f rC
 by_cases h:(l.length:Int)>65527
 ·rw [ah h,ah h]
 ·rw [aj h,aj h,bQ (n:=8+(l.length:Int)) (by omega) (by omega),FB (n:=8+(l.length:Int)) (by omega) (by omega)]
  simp only [bG,List.length_cons,List.length_nil,List.cons_append,List.nil_append];rw [ah (by omega)];simp only [bG,List.length_cons,List.length_nil,List.cons_append,List.nil_append];rw [ah (by omega)];simp only [bG,List.length_cons,List.length_nil,List.cons_append,List.nil_append];rw [ah (by omega)];simp only [bG,List.length_cons,List.length_nil,List.cons_append,List.nil_append];rw [ah (by omega)];simp only [bG,List.length_cons,List.length_nil,List.cons_append,List.nil_append];rw [ah (by omega)]
theorem BQ {s d c:Int} {l:List Int} (h:jX l):jX (rC s d c l):=
 jX.append (.cons (by omega) (.cons (by omega) (.cons (by omega) (.cons (by omega) (.cons (by omega) (.cons (by omega) (.cons (by omega) (.cons (by omega) .nil)))))))) h
theorem wX (s d c:Int) (l:List Int):(rC s d c l).length=8+l.length:=by simp [rC];omega
theorem BR {s d c:Int} {l:List Int} (hs:0<=s /\ s<=65535) (hd:0<=d /\ d<=65535) (hc:0<=c /\ c<=65535) (hl:(l.length:Int)<=65527):uI (words (rC s d c l))=s+d+(8+(l.length:Int))+c+uI (words l):=by
 unfold rC;simp only [List.cons_append,List.nil_append,words,uI]
 omega
def yT (a b s d:Int) (l:List Int):Int:=norm (a / 65536+a % 65536+b / 65536+b % 65536+17+(8+(l.length:Int)) % 65536)+s+d+(8+(l.length:Int))+uI (words l)
theorem Ia {a b s d:Int} {l:List Int} (ha:0<=a) (hb:0<=b) (hs:0<=s) (hd:0<=d) (h:jX l):0<yT a b s d l:=by
 have h1:=mM (a / 65536+a % 65536+b / 65536+b % 65536+17+(8+(l.length:Int)) % 65536) (by omega);have h2:=sU _ (iW l h);unfold yT;omega
theorem Aj9 {a b s d c:Int} {l:List Int} (ha:0<=a /\ a<=4294967295) (hb:0<=b /\ b<=4294967295) (hs:0<=s /\ s<=65535) (hd:0<=d /\ d<=65535) (hc:0<=c /\ c<=65535) (h:jX l) (hl:(l.length:Int)<=3000) (K:Nat) (hK:4000<=K):
  uh.f K a b s d c l=some (norm (yT a b s d l+c),true):=by
 have hB:=BQ (s:=s) (d:=d) (c:=c) h;have hL:=wX s d c l;have hp:=mM (a / 65536+a % 65536+b / 65536+b % 65536+17+(8+(l.length:Int)) % 65536) (by omega);unfold uh.f;rw [Yo _ _ _ (by omega),aj (by omega)];simp only [bG];rw [show ((rC s d c l).length:Int)=8+(l.length:Int) from by omega,uJ.NS a b 17 _ ha hb (by omega) K (by omega)];simp only [bG];have hr:=qA (words (rC s d c l)) _ hp.1 (by omega) (iW _ hB);have hn:=uk (words (rC s d c l)) _ hp.1 (by omega) (iW _ hB);rw [uJ.add_eq _ _ hB (by omega) hp.1 (by omega) K (by omega)];simp only [bG];rw [uJ.fold_eq _ hr.1 hr.2 K (by omega),hn,BR hs hd hc (by omega)];simp only [bG,beq_self_eq_true];unfold yT
 congr 3
 omega
def Tn (S:Int):Int:=if norm S=65535 then 65535 else 65535 - norm S
theorem Tq {S o:Int} (h:0<S) (ho:1<=o /\ o<=65535):norm (S+o)=65535↔o=Tn S:=by
 have e1:norm S=(S - 1) % 65535+1:=by unfold norm;rw [aj (by omega)]
 have e2:norm (S+o)=(S+o - 1) % 65535+1:=by unfold norm;rw [aj (by omega)]
 unfold Tn;rw [e1,e2]
 split<;>omega
theorem AbR {a b s d c:Int} {l:List Int} (ha:0<=a /\ a<=4294967295) (hb:0<=b /\ b<=4294967295) (hs:0<=s /\ s<=65535) (hd:0<=d /\ d<=65535) (h:jX l) (hl:(l.length:Int)<=3000) (K:Nat) (hK:4000<=K):
  pO.f K a b s d c l=some (Tn (yT a b s d l)):=by
 have hS:=Ia (s:=s) (d:=d) ha.1 hb.1 hs.1 hd.1 h;have hnn:=mM (yT a b s d l) (by omega);have hB:=BQ (s:=s) (d:=d) (c:=0) h;have hL:=wX s d 0 l;have hp:=mM (a / 65536+a % 65536+b / 65536+b % 65536+17+(8+(l.length:Int)) % 65536) (by omega);have hr:=qA (words (rC s d 0 l)) _ hp.1 (by omega) (iW _ hB);have hn:=uk (words (rC s d 0 l)) _ hp.1 (by omega) (iW _ hB);unfold pO.f;rw [BP _ _ _ (by omega),aj (by omega)];simp only [bG,if_true];rw [show ((rC s d 0 l).length:Int)=8+(l.length:Int) from by omega,uJ.FM a b 17 _ ha hb (by omega) K (by omega)];simp only [bG];rw [uJ.Eg _ _ hB (by omega) hp.1 (by omega) K (by omega)];simp only [bG]
 have e:norm (a / 65536+a % 65536+b / 65536+b % 65536+17+(8+(l.length:Int)) % 65536)+(s+d+(8+(l.length:Int))+0+uI (words l))=yT a b s d l:=by unfold yT;omega
 rw [uJ.yQ _ hr.1 hr.2 K (by omega),hn,BR hs hd (by omega) (by omega),e];simp only [bG];rw [show (IntKind.u16.max:Int)=65535 from rfl,JE hnn.1 hnn.2];unfold Tn
 by_cases c1:norm (yT a b s d l)=65535
 ·rw [ah (by omega),ah c1]
 ·rw [aj (by omega),aj c1]
theorem Yp {a b s d c:Int} {l:List Int} (ha:0<=a /\ a<=4294967295) (hb:0<=b /\ b<=4294967295) (hs:0<=s /\ s<=65535) (hd:0<=d /\ d<=65535) (hc:0<=c /\ c<=65535) (h:jX l) (hl:(l.length:Int)<=3000) (K:Nat) (hK:4000<=K):
  uT.f K a b s d c l=some (decide (c=0 \/ c=Tn (yT a b s d l))):=by
 have hS:=Ia (s:=s) (d:=d) ha.1 hb.1 hs.1 hd.1 h;unfold uT.f
 by_cases c0:c=0
 ·rw [ah c0];simp [c0]
 ·rw [aj c0,Aj9 ha hb hs hd hc h hl K hK]
  simp only [bG,if_true];have:=Tq hS (o:=c) (by omega)
  congr 1
  rw [Bool.eq_iff_iff,beq_iff_eq,decide_eq_true_eq,this];exact ⟨fun h=> .inr h,fun h=>h.resolve_left c0⟩
theorem Vg {a b s d c:Int} {l:List Int} (ha:0<=a /\ a<=4294967295) (hb:0<=b /\ b<=4294967295) (hs:0<=s /\ s<=65535) (hd:0<=d /\ d<=65535) (hc:0<=c /\ c<=65535) (h:jX l) (hl:(l.length:Int)<=3000) (K:Nat) (hK:4000<=K):
  nT.f K a b s d c l=some (decide (c=0 \/ c=Tn (yT a b s d l))):=by
 have hS:=Ia (s:=s) (d:=d) ha.1 hb.1 hs.1 hd.1 h;unfold nT.f
 by_cases c0:c=0
 ·rw [ah c0];simp [c0]
 ·have hB:=BQ (s:=s) (d:=d) (c:=c) h
  have hL:=wX s d c l;have hp:=mM (a / 65536+a % 65536+b / 65536+b % 65536+17+(8+(l.length:Int)) % 65536) (by omega);have hr:=qA (words (rC s d c l)) _ hp.1 (by omega) (iW _ hB);have hn:=uk (words (rC s d c l)) _ hp.1 (by omega) (iW _ hB);rw [aj c0,BP _ _ _ (by omega),aj (by omega)];simp only [bG,if_true];rw [show ((rC s d c l).length:Int)=8+(l.length:Int) from by omega,uJ.FM a b 17 _ ha hb (by omega) K (by omega)];simp only [bG];rw [uJ.Eg _ _ hB (by omega) hp.1 (by omega) K (by omega)];simp only [bG];have e:norm (a / 65536+a % 65536+b / 65536+b % 65536+17+(8+(l.length:Int)) % 65536)+(s+d+(8+(l.length:Int))+c+uI (words l))=yT a b s d l+c:=by unfold yT;omega
  rw [uJ.yQ _ hr.1 hr.2 K (by omega),hn,BR hs hd hc (by omega),e];simp only [bG];have:=Tq hS (o:=c) (by omega)
  congr 1
  rw [Bool.eq_iff_iff,beq_iff_eq,decide_eq_true_eq,this];exact ⟨fun h=> .inr h,fun h=>h.resolve_left c0⟩
end Go.Proofs.Ytkmimamminddiaa.Pure
namespace Go.Proofs.Ytkmimamminddiaa.qX
open Go.RowKit Go.Proofs.Ytkmimamminddiaa.PB Go.Proofs.YtkmimamminddiaaW.PrintWords Go.Proofs.YtkmimamminddiaaW.PrintLast
open Go.Proofs.Ytkmimamminddiaa.Spec Go.Proofs.Ytkmimamminddiaa.BytesEq
theorem Aet {a b c d:Int} (ha:0<=a /\ a<=255) (hb:0<=b /\ b<=255) (hc:0<=c /\ c<=255) (hd:0<=d /\ d<=255):
  Go.bits .or .u32 (Go.bits .or .u32 (Go.bits .or .u32 (((a % 4294967296)*16777216) % 4294967296) (((b % 4294967296)*65536) % 4294967296)) (((c % 4294967296)*256) % 4294967296)) (d % 4294967296)=a*16777216+b*65536+c*256+d:=by
 rw [show a % 4294967296=a from by omega,show a*16777216 % 4294967296=a*16777216 from by omega,show b % 4294967296=b from by omega,show b*65536 % 4294967296=b*65536 from by omega,show c % 4294967296=c from by omega,show c*256 % 4294967296=c*256 from by omega,show d % 4294967296=d from by omega];rw [PY 24 (x:=a*16777216) (y:=b*65536) (by omega) (by omega) (by omega) (by omega) (by omega) (by omega)];rw [PY 16 (x:=a*16777216+b*65536) (y:=c*256) (by omega) (by omega) (by omega) (by omega) (by omega) (by omega)];rw [PY 8 (x:=a*16777216+b*65536+c*256) (y:=d) (by omega) (by omega) (by omega) (by omega) (by omega) (by omega)]
def Yq (l:List Int):Int×Int×Int×Int×List Int×Int:=if l.length<8 then (0,0,0,0,[],20) else (l.getD 0 0,l.getD 1 0,g16 l 2,yD l 4,l.drop 8,0)
theorem Ib {l:List Int} (h:jX l) (hl:l.length<=1000000000):kH.f l=some (Yq l):=by
 unfold kH.f Yq
 by_cases h8:l.length<8
 ·rw [ah (by omega),ah h8]
 ·rw [aj (by omega),aj h8,ah (by omega),ah (by omega),ah (by omega),ah (by omega),ah (by omega),ah (by omega),ah (by omega),ah (by omega),ah (by omega),GR _ (by rw [List.length_drop];omega)]
  simp only [bG];rw [jR l 0 0 rfl,jR l 1 1 rfl,jR l 2 2 rfl,jR l 3 3 rfl,jR l 4 4 rfl,jR l 5 5 rfl,jR l 6 6 rfl,jR l 7 7 rfl,LP (h.getD 2) (h.getD 3),Aet (h.getD 4) (h.getD 5) (h.getD 6) (h.getD 7)];have e:yD l 4=(l.getD 4 0*256+l.getD 5 0)*65536+(l.getD 6 0*256+l.getD 7 0):=rfl;rw [e,show (l.getD 4 0*256+l.getD 5 0)*65536+(l.getD 6 0*256+l.getD 7 0)=l.getD 4 0*16777216+l.getD 5 0*65536+l.getD 6 0*256+l.getD 7 0 from by omega]
  rfl
theorem yU {l:List Int} (h:jX l) (hl:l.length<=1000000000):iI.f l=some (Yq l):=by
 unfold iI.f Yq
 by_cases h8:l.length<8
 ·rw [ah (by omega),ah h8]
 ·have e2:=kG h 2 (by omega) hl
  have e4:=xq h 4 (by omega) hl;have e8:=H9 l 8 l.length (by omega) (by omega) hl;rw [show ((2:Nat):Int)=2 from rfl] at e2
  rw [show ((4:Nat):Int)=4 from rfl] at e4
  rw [show ((8:Nat):Int)=8 from rfl] at e8
  rw [aj (by omega),aj h8,ah (by omega),ah (by omega),e2,e4,e8];simp only [bG,List.take_length];rw [jR l 0 0 rfl,jR l 1 1 rfl]
theorem Aeu (a b c d c' d':Int) (l l':List Int):∃ x,oJ.f a b c d l=some x /\ rM.f a b c' d' l'=some x:=by
 unfold oJ.f pK.f rM.f
 by_cases h0:a=0
 ·subst h0;exact ⟨b==0,by simp,by simp⟩
 ·by_cases h8:a=8
  ·subst h8;exact ⟨b==0,by simp,by simp⟩
  ·refine ⟨false, ?_,by simp [h0,h8]⟩
   simp only [aj h0,aj h8]
   split<;>(try split)<;>(try split)<;>simp
theorem AbS (a b c d b' c' d':Int) (l l':List Int):∃ x,wR.f a b c d l=some x /\ qO.f a b' c' d' l'=some x:=by
 unfold wR.f pK.f qO.f
 by_cases h3:a=3
 ·subst h3;exact ⟨true,by simp,by simp⟩
 ·by_cases h11:a=11
  ·subst h11;exact ⟨true,by simp,by simp⟩
  ·by_cases h12:a=12
   ·subst h12;exact ⟨true,by simp,by simp⟩
   ·refine ⟨false, ?_,by simp [h3,h11,h12]⟩
    simp only [aj h3,aj h11,aj h12]
    split<;>(try split)<;>simp
def kV (t c s r:Int) (l:List Int):List Int:=[t,c,s / 256 % 256,s % 256,r / 16777216 % 256,r / 65536 % 256,r / 256 % 256,r % 256]++l
theorem NU (t c s r:Int) {l:List Int} (hl:l.length<=1000000000):kJ.f t c s r l=if (l.length:Int)>65507 then some ([],23) else some (kV t c s r l,0):=by
 unfold kJ.f kV;rw [bQ (by omega) (by omega)]
 by_cases h:(l.length:Int)>65507
 ·rw [ah (by omega),ah h]
 ·rw [aj (by omega),aj h]
  simp only [bG,List.length_cons,List.length_nil];rw [ah (by omega)]
theorem tC (t c s r:Int) {l:List Int} (hl:l.length<=1000000000):bI.f t c s r l=if (l.length:Int)>65507 then some ([],23) else some (kV t c s r l,0):=by
 unfold bI.f aY.f dZ.f kV
 by_cases h:(l.length:Int)>65507
 ·rw [ah h,ah h]
 ·rw [aj h,aj h]
  simp only [bG,List.length_cons,List.length_nil,List.cons_append,List.nil_append];rw [ah (by omega)];simp only [bG,List.length_cons,List.length_nil,List.cons_append,List.nil_append];rw [ah (by omega)];simp only [bG,List.length_cons,List.length_nil,List.cons_append,List.nil_append];rw [ah (by omega)]
theorem tH {t c s r:Int} {l:List Int} (ht:0<=t /\ t<=255) (hc:0<=c /\ c<=255) (h:jX l):jX (kV t c s r l):=
 jX.append (.cons ht (.cons hc (.cons (by omega) (.cons (by omega) (.cons (by omega) (.cons (by omega) (.cons (by omega) (.cons (by omega) .nil)))))))) h
theorem qB (t c s r:Int) (l:List Int):(kV t c s r l).length=8+l.length:=by simp [kV];omega
theorem Tt {l:List Int} (h:jX l):(ck l==0)=(norm (uI (words l))==65535):=by
 have:=mM _ (sU _ (iW l h));unfold ck;rw [Bool.eq_iff_iff,beq_iff_eq,beq_iff_eq];omega
theorem Yr {t c s r:Int} {l:List Int} (ht:0<=t /\ t<=255) (hc:0<=c /\ c<=255) (h:jX l) (hl:(l.length:Int)<=3000) (K:Nat) (hK:4000<=K):
  sK.f K t c s r l=some (norm (uI (words (kV t c s r l)))==65535) /\ mO.f K t c s r l=some (norm (uI (words (kV t c s r l)))==65535):=by
 have hB:=tH (s:=s) (r:=r) ht hc h;have hL:=qB t c s r l;have hr:=qA (words (kV t c s r l)) 0 (by omega) (by omega) (iW _ hB);have hn:=uk (words (kV t c s r l)) 0 (by omega) (by omega) (iW _ hB)
 constructor
 ·unfold sK.f
  rw [NU _ _ _ _ (by omega),aj (by omega)];simp only [bG,if_true];rw [uJ.of_eq _ hB (by omega) K (by omega) (by omega)];simp only [bG];rw [Tt hB]
 ·unfold mO.f
  rw [tC _ _ _ _ (by omega),aj (by omega)];simp only [bG,if_true];rw [uJ.Eg 0 _ hB (by omega) (by omega) (by omega) K (by omega)];simp only [bG];rw [uJ.yQ _ hr.1 hr.2 K (by omega),hn,Int.zero_add];simp only [bG]
theorem NV (t c s r:Int) (l:List Int) (K:Nat) (hK:4000<=K) (hl:(l.length:Int)<=3000) (hB:jX (kV t c 0 r l)):jg.f K t c s r l=some (ck (kV t c 0 r l)):=by
 have hL:=qB t c 0 r l;unfold jg.f;rw [tC _ _ _ _ (by omega),aj (by omega)];simp only [bG,if_true];rw [uJ.AbJ _ hB (by omega) _ (by omega) (by omega)];simp only [bG]
end Go.Proofs.Ytkmimamminddiaa.qX
