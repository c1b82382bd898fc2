/- Texts of this claim, merged: PBx15, PBx6, PBx19, PBx20, PBx42, PBx2, PBx43, PBx44, PBx45, PBx46, PBx47, PBx48, PBx49, PBx52. -/
import Derived.Test.YtkmimamminddiaaZpb
set_option maxHeartbeats 40000000
set_option maxRecDepth 100000
set_option linter.unusedVariables false
set_option linter.unusedSimpArgs false
namespace Go.Proofs.Ytkmimamminddiaa.PB
open Go.RowKit Go.Proofs.ai.bX Go.Proofs.ai.dh Go.Proofs.ai.iL
attribute [local go_sem] dF dG eG eH cQ cR dH dI
theorem cX.EM {P:Program} {ops:Array Oper} {Q:Exit ->Act ->World ->Prop} {rest:List Oper} {oi:Oper} {a:Act} {w:World} (N:Option Tmp) (_hd:oi.dst=N) (hg:oi.guard=none) {f:FuncId} {fn:Func} {as_:Array Operand} {ts:Array TypeId} (hf:P.funcs[f]?=some fn) (hname:(fn.name== "runtime.NumGoroutine")=false) (hb:fn.body.isSome=true) (args:Array Value)
  (hop:oi.op= .call {callee:= .value (.func f),args:=as_,argTypes:=ts}) (hargs:as_.map a.eval=args)
  (h:Calls P f args w fun e w'=>∃ ch,e= .panicked ch /\ Q (.panic ch) a w'):wpList P ops Q (oi::rest) a w:=by
 refine wpList_plain hg fun K hK=> ?_
 have he:=FE hf hname hb args w
 have hrun:(execOp a.eval oi).run P w= .ok (.enter f args) w:=by
  unfold execOp
  simp [hop,resolve,Deferred.ofValue,invoke,Act.eval,hargs,he]
 unfold Oper.wp;rw [hrun,Oper.upon_enter];refine h.mono fun e w'' hh=> ?_
 obtain ⟨ch,rfl,hk⟩:=hh;exact hk
theorem dY.panics (a0:Bool) (a1:Int) (w:World) (h:a0=false):Calls Try.prog 117 #[.bool a0,.int .i64 a1] w fun e w'=>e= .panicked [{v:= .iface 163 (.agg #[.int .i64 a1]),recovered:=false}] /\ bF w w':=by
 subst h;have Aee:=Try.underlying163
 go_enter Try.func117,Try.ntmps117
 go_wp2
 exact ⟨rfl,rfl,by repeat (first|exact bF.refl _|apply bF.step)⟩
def cX.T5:Bool×List (List Nat×List Nat):=(true,[([],[]),([],[]),([1],[1]),([0,0],[0]),([2,3,0,1,2,3],[2])])
def cX.B5:List Nat:=[0,0,2,1,15]
theorem cX.AlS:gS .any (opsOf Try.f94 5)=cX.T5:=by kernel_rfl
theorem cX.Aef:dN cX.T5.2 cX.B5=true:=by kernel_rfl
theorem cX.Qu (x:Int) (w:World):(Instr.typeAssert (.iface 163 (.agg #[.int .i64 x])) 20 163 true).run Try.prog w= .ok (.tuple #[.agg #[.int .i64 x],.bool true]) w:=by kernel_rfl
theorem cX.Bw (x:Int) (w0 w:World) (B gp ge:Nat) (hp:w.heap[gp]?=some (.cells #[.int .u8 0,.int .u8 0,.int .u8 0,.int .u16 0,.int .u8 0,.int .u16 0,.int .u32 0,.int .u32 0,.slice none 0 0,.slice none 0 0] 73 (0,0)))
  (he:w.heap[ge]?=some (.cells #[.int .i64 0] 49 (0,0))) (hne:gp≠ge) (hB:Below B w0 w) (hBp:B<=gp) (hBe:B<=ge):
  CallsD Try.prog 94 #[.pointer (some ⟨gp,0,none⟩),.pointer (some ⟨ge,0,none⟩)] (.panicking [{v:= .iface 163 (.agg #[.int .i64 x]),recovered:=false}]) w fun e u' w'=>
   e= .returned (.tuple #[]) /\ u'= .panicking [{v:= .iface 163 (.agg #[.int .i64 x]),recovered:=true}] /\
   w'.heap[gp]?=some (.cells #[.int .u8 0,.int .u8 0,.int .u8 0,.int .u16 0,.int .u8 0,.int .u16 0,.int .u32 0,.int .u32 0,.slice none 0 0,.slice none 0 0] 73 (0,0)) /\
   w'.heap[ge]?=some (.cells #[.int .i64 x] 49 (0,0)) /\ Below B w0 w':=by
 have HP:=aa.mk hp;have HE:=aa.mk he;have HN:=aa.mk hne;have HB:=aa.mk hB;have Qv:=aa.mk hBp;have HBE:=aa.mk hBe;clear hp he hne hB hBp hBe;have NP:=Try.underlying73;have Aee:=Try.underlying163;have ZS:∀ (v:Value) (w:World),(binOp BinOp.neq 20 (.iface 163 v) .nilIface).run Try.prog w= .ok (.bool true) w:=fun _ _=>by kernel_rfl
 have hta:=cX.Qu x;refine callsD_of_wpS Try.func94 rfl fun c₀ cs hu=> ?_
 simp only [Try.ntmps94,List.size_toArray,List.length_cons,List.length_nil,Nat.reduceAdd,Nat.reduceSub,Array.replicate_succ,Array.replicate_zero,List.push_toArray,List.append_toArray,List.nil_append,List.cons_append]
 apply wpS_seq
 apply wpS_region
 simp [wpOpsS,go_sem,recoverD,hu,Try.ntmps94,Exit.thenS]
 apply wpS_seq
 apply wpS_region
 simp [wpOpsS,go_sem,Exit.thenS]
 refine wpS_cond (t:=true) (by simp [Act.eval,Array.replicate]) ?_;simp only [if_true];refine wpS_of_wp ?_
 go_upto_region 5 with (fail)
 have hf:(w.alloc (.cells #[.int .i64 x] 163)).drew.cell? ⟨w.heap.size,0,none⟩=some (.int .i64 x):=by go_simp
 refine dg (n:=5) (S:=fun w'=>w'.cell? ⟨w.heap.size,0,none⟩=some (.int .i64 x)) (ds:=[]) #[false,false,false,false,false] (by kernel_rfl) rfl rfl hf (fun hHeld=> ?_);refine bH cX.AlS cX.Aef (fun az dW=> ?_);have Aeg:w.heap.size≠gp:=fun e=>by have:=mm HP.out;omega
 have WC:w.heap.size≠ge:=fun e=>by have:=mm HE.out;omega
 have CK:=aa.mk (aK (aM HP.out (.cells #[.int .i64 x] 163)));have HE1:=aa.mk (aK (aM HE.out (.cells #[.int .i64 x] 163)));have PK:aa (Below B w0 (w.alloc (.cells #[.int .i64 x] 163)).drew):=⟨sC (Below.alloc HB.out (by have:=mm HP.out;have:=Qv.out;omega) _)⟩
 have Qw:=aa.mk Aeg;have HG2:=aa.mk WC;clear HP HE HB Aeg WC hf;generalize (w.alloc (.cells #[.int .i64 x] 163)).drew=wc at CK HE1 PK hHeld|-
 generalize w.heap.size=gf at Qw HG2 hHeld az dW|-
 refine pz 0 16 az ?_;refine pz 1 17 az ?_;refine tz 2 18 az dW hHeld ?_;have NQ:aa (ge≠gp):=⟨fun e=>HN.out e.symm⟩
 refine oz 3 (none) az (fun K hK=> ?_);have hs0:=cz CK.out 0 rfl;have KO:=ae CK.out 0;have hs1:=cz CK.out 1 rfl;have ZT:=ae CK.out 1;have hs2:=cz CK.out 2 rfl;have ZU:=ae CK.out 2;have hs3:=cz CK.out 3 rfl;have ZV:=ae CK.out 3;have hs4:=cz CK.out 4 rfl;have ZW:=ae CK.out 4;have hs5:=cz CK.out 5 rfl;have ZX:=ae CK.out 5;have hs6:=cz CK.out 6 rfl;have ZY:=ae CK.out 6;have hs7:=cz CK.out 7 rfl;have ZZ:=ae CK.out 7;have hs8:=cz CK.out 8 rfl;have Z0:=ae CK.out 8;have hs9:=cz CK.out 9 rfl;have Z1:=ae CK.out 9
 refine wJ (w1:=((((((((((wc.setCell ⟨gp,0,none⟩ (.int .u8 0)).setCell ⟨gp,1,none⟩ (.int .u8 0)).setCell ⟨gp,2,none⟩ (.int .u8 0)).setCell ⟨gp,3,none⟩ (.int .u16 0)).setCell ⟨gp,4,none⟩ (.int .u8 0)).setCell ⟨gp,5,none⟩ (.int .u16 0)).setCell ⟨gp,6,none⟩ (.int .u32 0)).setCell ⟨gp,7,none⟩ (.int .u32 0)).setCell ⟨gp,8,none⟩ (.slice none 0 0)).setCell ⟨gp,9,none⟩ (.slice none 0 0))) (by rfl) rfl ?_ ?_
 ·go_simp
 have f1:=aa.mk ((cell_far (W:=(((((((((wc.setCell ⟨gp,0,none⟩ (.int .u8 0)).setCell ⟨gp,1,none⟩ (.int .u8 0)).setCell ⟨gp,2,none⟩ (.int .u8 0)).setCell ⟨gp,3,none⟩ (.int .u16 0)).setCell ⟨gp,4,none⟩ (.int .u8 0)).setCell ⟨gp,5,none⟩ (.int .u16 0)).setCell ⟨gp,6,none⟩ (.int .u32 0)).setCell ⟨gp,7,none⟩ (.int .u32 0)).setCell ⟨gp,8,none⟩ (.slice none 0 0))) (p:=⟨gp,9,none⟩) Qw.out (.slice none 0 0)).trans ((cell_far (W:=((((((((wc.setCell ⟨gp,0,none⟩ (.int .u8 0)).setCell ⟨gp,1,none⟩ (.int .u8 0)).setCell ⟨gp,2,none⟩ (.int .u8 0)).setCell ⟨gp,3,none⟩ (.int .u16 0)).setCell ⟨gp,4,none⟩ (.int .u8 0)).setCell ⟨gp,5,none⟩ (.int .u16 0)).setCell ⟨gp,6,none⟩ (.int .u32 0)).setCell ⟨gp,7,none⟩ (.int .u32 0))) (p:=⟨gp,8,none⟩) Qw.out (.slice none 0 0)).trans ((cell_far (W:=(((((((wc.setCell ⟨gp,0,none⟩ (.int .u8 0)).setCell ⟨gp,1,none⟩ (.int .u8 0)).setCell ⟨gp,2,none⟩ (.int .u8 0)).setCell ⟨gp,3,none⟩ (.int .u16 0)).setCell ⟨gp,4,none⟩ (.int .u8 0)).setCell ⟨gp,5,none⟩ (.int .u16 0)).setCell ⟨gp,6,none⟩ (.int .u32 0))) (p:=⟨gp,7,none⟩) Qw.out (.int .u32 0)).trans ((cell_far (W:=((((((wc.setCell ⟨gp,0,none⟩ (.int .u8 0)).setCell ⟨gp,1,none⟩ (.int .u8 0)).setCell ⟨gp,2,none⟩ (.int .u8 0)).setCell ⟨gp,3,none⟩ (.int .u16 0)).setCell ⟨gp,4,none⟩ (.int .u8 0)).setCell ⟨gp,5,none⟩ (.int .u16 0))) (p:=⟨gp,6,none⟩) Qw.out (.int .u32 0)).trans ((cell_far (W:=(((((wc.setCell ⟨gp,0,none⟩ (.int .u8 0)).setCell ⟨gp,1,none⟩ (.int .u8 0)).setCell ⟨gp,2,none⟩ (.int .u8 0)).setCell ⟨gp,3,none⟩ (.int .u16 0)).setCell ⟨gp,4,none⟩ (.int .u8 0))) (p:=⟨gp,5,none⟩) Qw.out (.int .u16 0)).trans ((cell_far (W:=((((wc.setCell ⟨gp,0,none⟩ (.int .u8 0)).setCell ⟨gp,1,none⟩ (.int .u8 0)).setCell ⟨gp,2,none⟩ (.int .u8 0)).setCell ⟨gp,3,none⟩ (.int .u16 0))) (p:=⟨gp,4,none⟩) Qw.out (.int .u8 0)).trans ((cell_far (W:=(((wc.setCell ⟨gp,0,none⟩ (.int .u8 0)).setCell ⟨gp,1,none⟩ (.int .u8 0)).setCell ⟨gp,2,none⟩ (.int .u8 0))) (p:=⟨gp,3,none⟩) Qw.out (.int .u16 0)).trans ((cell_far (W:=((wc.setCell ⟨gp,0,none⟩ (.int .u8 0)).setCell ⟨gp,1,none⟩ (.int .u8 0))) (p:=⟨gp,2,none⟩) Qw.out (.int .u8 0)).trans ((cell_far (W:=(wc.setCell ⟨gp,0,none⟩ (.int .u8 0))) (p:=⟨gp,1,none⟩) Qw.out (.int .u8 0)).trans ((cell_far (W:=wc) (p:=⟨gp,0,none⟩) Qw.out (.int .u8 0)).trans hHeld))))))))))
 have f2:=aa.mk (bM (bM (bM (bM (bM (bM (bM (bM (bM (bM CK.out 0 (.int .u8 0) rfl) 1 (.int .u8 0) rfl) 2 (.int .u8 0) rfl) 3 (.int .u16 0) rfl) 4 (.int .u8 0) rfl) 5 (.int .u16 0) rfl) 6 (.int .u32 0) rfl) 7 (.int .u32 0) rfl) 8 (.slice none 0 0) rfl) 9 (.slice none 0 0) rfl);have f3:=aa.mk (jq (jq (jq (jq (jq (jq (jq (jq (jq (jq HE1.out (p:=⟨gp,0,none⟩) NQ.out (.int .u8 0)) (p:=⟨gp,1,none⟩) NQ.out (.int .u8 0)) (p:=⟨gp,2,none⟩) NQ.out (.int .u8 0)) (p:=⟨gp,3,none⟩) NQ.out (.int .u16 0)) (p:=⟨gp,4,none⟩) NQ.out (.int .u8 0)) (p:=⟨gp,5,none⟩) NQ.out (.int .u16 0)) (p:=⟨gp,6,none⟩) NQ.out (.int .u32 0)) (p:=⟨gp,7,none⟩) NQ.out (.int .u32 0)) (p:=⟨gp,8,none⟩) NQ.out (.slice none 0 0)) (p:=⟨gp,9,none⟩) NQ.out (.slice none 0 0))
 have f4:=aa.mk (Below.setCell (p:=⟨gp,9,none⟩) (Below.setCell (p:=⟨gp,8,none⟩) (Below.setCell (p:=⟨gp,7,none⟩) (Below.setCell (p:=⟨gp,6,none⟩) (Below.setCell (p:=⟨gp,5,none⟩) (Below.setCell (p:=⟨gp,4,none⟩) (Below.setCell (p:=⟨gp,3,none⟩) (Below.setCell (p:=⟨gp,2,none⟩) (Below.setCell (p:=⟨gp,1,none⟩) (Below.setCell (p:=⟨gp,0,none⟩) PK.out Qv.out (.int .u8 0)) Qv.out (.int .u8 0)) Qv.out (.int .u8 0)) Qv.out (.int .u16 0)) Qv.out (.int .u8 0)) Qv.out (.int .u16 0)) Qv.out (.int .u32 0)) Qv.out (.int .u32 0)) Qv.out (.slice none 0 0)) Qv.out (.slice none 0 0));clear hs0 hs1 hs2 hs3 hs4 hs5 hs6 hs7 hs8 hs9 KO ZT ZU ZV ZW ZX ZY ZZ Z0 Z1
 generalize ((((((((((wc.setCell ⟨gp,0,none⟩ (.int .u8 0)).setCell ⟨gp,1,none⟩ (.int .u8 0)).setCell ⟨gp,2,none⟩ (.int .u8 0)).setCell ⟨gp,3,none⟩ (.int .u16 0)).setCell ⟨gp,4,none⟩ (.int .u8 0)).setCell ⟨gp,5,none⟩ (.int .u16 0)).setCell ⟨gp,6,none⟩ (.int .u32 0)).setCell ⟨gp,7,none⟩ (.int .u32 0)).setCell ⟨gp,8,none⟩ (.slice none 0 0)).setCell ⟨gp,9,none⟩ (.slice none 0 0))=wd at f1 f2 f3 f4|-
 clear CK HE1 PK hHeld;refine hK.out _ _ f1.out (fun hHeld=> ?_);clear hK K;refine oz 4 (none) az (fun K hK=> ?_);have he0:=cz f3.out 0 rfl;have Al2:=ae f3.out 0;refine wJ (w1:=wd.setCell ⟨ge,0,none⟩ (.int .i64 x)) (by rfl) rfl ?_ ?_
 ·go_simp
 clear he0 Al2;refine hK.out _ _ ((cell_far (W:=wd) (p:=⟨ge,0,none⟩) HG2.out (.int .i64 x)).trans hHeld) (fun hHeld=> ?_);clear hK K;refine dz az ?_;have g1:(wd.setCell ⟨ge,0,none⟩ (.int .i64 x)).heap[gp]?=_:=jq f2.out (p:=⟨ge,0,none⟩) HN.out (.int .i64 x);have g2:(wd.setCell ⟨ge,0,none⟩ (.int .i64 x)).heap[ge]?=_:=bM f3.out 0 (.int .i64 x) rfl;have g3:=Below.setCell (p:=⟨ge,0,none⟩) f4.out HBE.out (.int .i64 x);clear ZS hta NP Aee;exact ⟨rfl,_,rfl,.tuple #[],by simp [results,Try.results94],rfl,rfl,g1,g2,g3⟩
theorem cX.KP (p q:Addr) (w:World):CallsD Try.prog 94 #[.pointer (some p),.pointer (some q)] .returning w fun e u' w'=>e= .returned (.tuple #[]) /\ u'= .returning /\ w'=w:=by
 have ZS:∀ (w:World),(binOp BinOp.neq 20 .nilIface .nilIface).run Try.prog w= .ok (.bool false) w:=fun _=>by kernel_rfl
 refine callsD_of_wpS Try.func94 rfl fun c₀ cs hu=> ?_
 simp only [Try.ntmps94,List.size_toArray,List.length_cons,List.length_nil,Nat.reduceAdd,Nat.reduceSub,Array.replicate_succ,Array.replicate_zero,List.push_toArray,List.append_toArray,List.nil_append,List.cons_append]
 apply wpS_seq
 apply wpS_region
 simp [wpOpsS,go_sem,recoverD,hu,Exit.thenS]
 apply wpS_seq
 apply wpS_region
 simp [wpOpsS,go_sem,Exit.thenS,ZS]
 refine wpS_cond (t:=false) (by simp [Act.eval]) ?_;simp only [Bool.false_eq_true,if_false];refine wpS_of_wp (wp_skip ?_)
 cases c₀
 simp_all [bodyPostS,results,Try.results94]
theorem aY.Al3 (A0:Option Addr) (c0:Nat) (l0:List Int) (w:World) (hr0:Kd.C (Kd.int .u8) w A0 l0.length l0) (hc0:l0.length<=c0) (h:(l0.length:Int)<20):
  Calls Try.prog 95 #[.slice A0 l0.length c0] w fun e w'=>e= .panicked [{v:= .iface 163 (.agg #[.int .i64 20]),recovered:=false}] /\ Below w.heap.size w w':=by
 have NP:=Try.underlying73;have gh:=aa.mk hr0;have jC:=aa.mk hc0;clear hr0 hc0;have HB:=gj w;have iS:decide ((l0.length:Int)>=20)=false:=gO (by omega);have HD:=aa.mk iS;clear iS h
 go_enter Try.func95,Try.ntmps95
 go_wp2_with (first|((with_reducible refine aA (N:=2) rfl ?_);refine aC ?hg (N:=2) ?hd (cs:= #[.int .u8 0,.int .u8 0,.int .u8 0,.int .u16 0,.int .u8 0,.int .u16 0,.int .u32 0,.int .u32 0,.slice none 0 0,.slice none 0 0]) (t:=73) ?hr ?_;(case hd=>rfl);(case hg=>rfl);(case hr=>first|(go_simp;done)|(go_simp;rfl));intro eO hg w6 bK hb;have aJ:=aa.mk (aq (bz HB) hb);have aQ:=aa.mk (bK);have bt:=aa.mk ((by rw [hg];exact (af (bz HB)):w.heap.size<=eO));have cr:=aa.mk ((by rw [hg];exact (af (bz HB)):w.heap.size<=eO));clear HB;have HB:=aJ;have eU:=aQ;have fM:=bt;have Mu:=cr;clear aJ aQ bt cr;clear hb bK hg)|((with_reducible refine ay (f:=117) rfl ?_);refine cX.EM (some 9) rfl rfl Try.func117 (by kernel_rfl) rfl #[.bool (decide ((l0.length:Int)>=20)),.int .i64 20] rfl (by (try simp only [List.map_toArray,List.map_cons,List.map_nil]);first|done|rfl|(simp only [List.length_drop,List.length_take];rfl)|(go_simp;done)|(simp [Act.eval,IntKind.signed];done)|(simp [Act.eval,IntKind.signed];rfl)) ?_;(with_reducible refine (dY.panics (decide ((l0.length:Int)>=20)) 20 _ HD.out).mono ?_);rintro e w' ⟨rfl,⟨nd,rfl⟩⟩;refine ⟨_,rfl, ?_⟩;exact ⟨rfl,rfl,bz HB⟩))
theorem aY.Al4 (qh:Int) (A0:Option Addr) (c0:Nat) (l0:List Int) (w:World) (hr0:Kd.C (Kd.int .u8) w A0 l0.length l0) (hc0:l0.length<=c0) (hlen:(l0.length:Int)>=20) (h2:dw.f l0 2=some qh) (hf:¬ ((rd l0 0) / 16=4 /\ (wrap64 (4*(wrap64 (Go.bits .and .u8 (rd l0 0) 15))))>=20 /\ (wrap64 (qh))>=(wrap64 (4*(wrap64 (Go.bits .and .u8 (rd l0 0) 15)))))):
  Calls Try.prog 95 #[.slice A0 l0.length c0] w fun e w'=>e= .panicked [{v:= .iface 163 (.agg #[.int .i64 21]),recovered:=false}] /\ Below w.heap.size w w':=by
 have NP:=Try.underlying73;have gh:=aa.mk hr0;have jC:=aa.mk hc0;clear hr0 hc0;have HB:=gj w;have HF:=aa.mk hf;clear hf;have A2:aa (dY.f (decide ((l0.length:Int)>=20)) 20=some ()):=⟨by unfold dY.f;rw [bS hlen,au rfl]⟩
 have A4:=aa.mk h2;have oY:decide (0<(l0.length:Int))=true:=bS (by omega);have qP:decide (0<l0.length)=true:=bS (by omega);clear hlen h2
 go_enter Try.func95,Try.ntmps95
 try go_wp2_with (first|((with_reducible refine aA (N:=2) rfl ?_);refine aC ?hg (N:=2) ?hd (cs:= #[.int .u8 0,.int .u8 0,.int .u8 0,.int .u16 0,.int .u8 0,.int .u16 0,.int .u32 0,.int .u32 0,.slice none 0 0,.slice none 0 0]) (t:=73) ?hr ?_;(case hd=>rfl);(case hg=>rfl);(case hr=>first|(go_simp;done)|(go_simp;rfl));intro eO hg w6 bK hb;have aJ:=aa.mk (aq (bz HB) hb);have aQ:=aa.mk (bK);have bt:=aa.mk ((by rw [hg];exact (af (bz HB)):w.heap.size<=eO));have cr:=aa.mk ((by rw [hg];exact (af (bz HB)):w.heap.size<=eO));clear HB;have HB:=aJ;have eU:=aQ;have fM:=bt;have Mu:=cr;clear aJ aQ bt cr;clear hb bK hg)|((with_reducible refine ay (f:=117) rfl ?_);refine gL 9 Try.func117 #[.bool (decide ((l0.length:Int)>=20)),.int .i64 20] ?_;(with_reducible refine (dY.calls (decide ((l0.length:Int)>=20)) 20 _ A2.out).mono ?_);rintro e w' ⟨rfl,⟨nd,rfl⟩⟩;refine ⟨_,rfl, ?_⟩))
 (try (rw [fg w6];generalize j5:World.drewN w6 _=w6;have aJ:aa (w6.heap[eO]?=some (.cells #[.int .u8 0,.int .u8 0,.int .u8 0,.int .u16 0,.int .u8 0,.int .u16 0,.int .u32 0,.int .u32 0,.slice none 0 0,.slice none 0 0] 73 (0,0))):=⟨by rw [<- j5];exact (kz eU)⟩;have aQ:aa (Below w.heap.size w w6):=⟨by rw [<- j5];exact bz HB⟩;clear eU HB j5;have eU:=aJ;have HB:=aQ;clear aJ aQ))
 have aJ:=aa.mk (aK eU.out);have aQ:=aa.mk (bf HB.out);clear eU;clear HB;have eU:=aJ;have HB:=aQ;clear aJ aQ;have xS:0<=(0:Int):=(by omega)
 have xT:0<(l0.length:Int):=gD;obtain ⟨jl,KK,gN⟩:=Kd.dB gh.out 0 xS xT;have gR:=gN
 (try rw [show ((0:Int)).toNat=0 from rfl] at gR)
 (try rw [show 0*1=0 from rfl] at gR)
 (try rw [Addr.add_zero'] at gR)
 cases KK
 have Qf:(0<l0.length)=True:=eq_true (by omega)
 (try rw [show ((0:Int)).toNat=0 from rfl] at gN)
 (try rw [Addr.add_zero'] at gN)
 replace gN:=(HB.out.cell (dA w _ gN)).trans gN;replace xS:=eq_true xS;replace xT:=eq_true xT;refine dg (n:=11) (S:=fun w'=>w'.cell? jl=some (.int .u8 (rd l0 0))) (ds:=[]) #[false,false,false,false,false,false,false,false,false,false,false] (by kernel_rfl) rfl rfl (((HB.out.cell (dA w _ gR)).trans gR)) (fun hHeld=> ?_);refine bH aY.TX aY.Mt (fun az dW=> ?_);generalize w6.drew=w7 at eU HB gN hHeld|-
 refine pz 0 10 az ?_;refine pz 1 11 az ?_;refine pz 6 16 az ?_;refine tz 2 12 az dW hHeld ?_;refine pz 3 13 az ?_;refine pz 4 14 az ?_;refine pz 5 15 az ?_;refine oz 7 (some 17) az (fun K hK=> ?_);refine gG Try.func118 #[.slice (some jl) l0.length c0,.int .i64 2] ?_
 with_reducible refine (dw.calls _ _ l0 2 qh _ ?aG ?aH A4.out).mono ?_
 (case aG=>exact Kd.aU gh.out (bz HB))
 (case aH=>exact jC.out)
 rintro e w' ⟨rfl,⟨nd,rfl⟩⟩;refine ⟨_,rfl, ?_⟩;refine hK.out _ _ (((HB.out.cell (dA w _ gR)).trans gR)) (fun hHeld=> ?_);clear hK K;refine nz 17 ?_;refine pz 8 18 az ?_;refine pz 9 3 az ?_;refine pz 10 4 az ?_;refine dz az ?_
 go_upto_region 3 with (fail)
 by_cases c8:((rd l0 0) / 16)=4
 ·have nX:(((rd l0 0) / 16)==4)=true:=fH c8
  have CB:(((rd l0 0) / 16) !=4)=false:=kO c8
  (first|rw [nX]|(simp only [jk,mo];rw [nX])|skip)
  by_cases c9:(wrap64 (4*(wrap64 (Go.bits .and .u8 (rd l0 0) 15))))>=20
  ·have wT:decide (20<=(wrap64 (4*(wrap64 (Go.bits .and .u8 (rd l0 0) 15)))))=true:=bS c9
   have iS:decide ((wrap64 (qh))>=(wrap64 (4*(wrap64 (Go.bits .and .u8 (rd l0 0) 15)))))=false:=gO (fun hx=>HF.out ⟨c8,c9,hx⟩);have HD:=aa.mk iS;clear iS c8 c9;have o4:0<=(0:Int):=(by omega)
   have o5:0<(l0.length:Int):=gD;obtain ⟨sI,yF,eJ⟩:=Kd.dB gh.out 0 o4 o5;obtain rfl:jl=sI:=(by injection yF)
   have CG:(0<l0.length)=True:=eq_true (by omega)
   (try rw [show ((0:Int)).toNat=0 from rfl] at eJ)
   (try rw [Addr.add_zero'] at eJ)
   replace eJ:=(HB.out.cell (dA w _ eJ)).trans eJ;replace o4:=eq_true o4;replace o5:=eq_true o5
   go_wp2_with (first|((with_reducible refine ay (f:=117) rfl ?_);refine cX.EM (some 33) rfl rfl Try.func117 (by kernel_rfl) rfl #[.bool (decide ((wrap64 (qh))>=(wrap64 (4*(wrap64 (Go.bits .and .u8 (rd l0 0) 15)))))),.int .i64 21] rfl (by (try simp only [List.map_toArray,List.map_cons,List.map_nil]);first|done|rfl|(simp only [List.length_drop,List.length_take];rfl)|(go_simp;done)|(simp [Act.eval,IntKind.signed];done)|(simp [Act.eval,IntKind.signed];rfl)) ?_;(with_reducible refine (dY.panics (decide ((wrap64 (qh))>=(wrap64 (4*(wrap64 (Go.bits .and .u8 (rd l0 0) 15)))))) 21 _ HD.out).mono ?_);rintro e w' ⟨rfl,⟨nd,rfl⟩⟩;refine ⟨_,rfl, ?_⟩;exact ⟨rfl,rfl,bz HB⟩))
  ·have wT:decide (20<=(wrap64 (4*(wrap64 (Go.bits .and .u8 (rd l0 0) 15)))))=false:=gO c9
   clear c8 c9;have o4:0<=(0:Int):=(by omega)
   have o5:0<(l0.length:Int):=gD;obtain ⟨sI,yF,eJ⟩:=Kd.dB gh.out 0 o4 o5;obtain rfl:jl=sI:=(by injection yF)
   have CG:(0<l0.length)=True:=eq_true (by omega)
   (try rw [show ((0:Int)).toNat=0 from rfl] at eJ)
   (try rw [Addr.add_zero'] at eJ)
   replace eJ:=(HB.out.cell (dA w _ eJ)).trans eJ;replace o4:=eq_true o4;replace o5:=eq_true o5
   go_wp2_with (first|((with_reducible refine ay (f:=117) rfl ?_);refine cX.EM (some 33) rfl rfl Try.func117 (by kernel_rfl) rfl #[.bool false,.int .i64 21] rfl (by (try simp only [List.map_toArray,List.map_cons,List.map_nil]);first|done|rfl|(simp only [List.length_drop,List.length_take];rfl)|(go_simp;done)|(simp [Act.eval,IntKind.signed];done)|(simp [Act.eval,IntKind.signed];rfl)) ?_;(with_reducible refine (dY.panics false 21 _ rfl).mono ?_);rintro e w' ⟨rfl,⟨nd,rfl⟩⟩;refine ⟨_,rfl, ?_⟩;exact ⟨rfl,rfl,bz HB⟩))
 ·have nX:(((rd l0 0) / 16)==4)=false:=fc c8
  have CB:(((rd l0 0) / 16) !=4)=true:=lA c8
  (first|rw [nX]|(simp only [jk,mo];rw [nX])|skip)
  clear c8;have o4:0<=(0:Int):=(by omega)
  have o5:0<(l0.length:Int):=gD;obtain ⟨sI,yF,eJ⟩:=Kd.dB gh.out 0 o4 o5;obtain rfl:jl=sI:=(by injection yF)
  have CG:(0<l0.length)=True:=eq_true (by omega)
  (try rw [show ((0:Int)).toNat=0 from rfl] at eJ)
  (try rw [Addr.add_zero'] at eJ)
  replace eJ:=(HB.out.cell (dA w _ eJ)).trans eJ;replace o4:=eq_true o4;replace o5:=eq_true o5
  go_wp2_with (first|((with_reducible refine ay (f:=117) rfl ?_);refine cX.EM (some 33) rfl rfl Try.func117 (by kernel_rfl) rfl #[.bool false,.int .i64 21] rfl (by (try simp only [List.map_toArray,List.map_cons,List.map_nil]);first|done|rfl|(simp only [List.length_drop,List.length_take];rfl)|(go_simp;done)|(simp [Act.eval,IntKind.signed];done)|(simp [Act.eval,IntKind.signed];rfl)) ?_;(with_reducible refine (dY.panics false 21 _ rfl).mono ?_);rintro e w' ⟨rfl,⟨nd,rfl⟩⟩;refine ⟨_,rfl, ?_⟩;exact ⟨rfl,rfl,bz HB⟩))
theorem aY.Al5 (qh:Int) (A0:Option Addr) (c0:Nat) (l0:List Int) (w:World) (hr0:Kd.C (Kd.int .u8) w A0 l0.length l0) (hc0:l0.length<=c0) (hlen:(l0.length:Int)>=20) (h2:dw.f l0 2=some qh) (hf:(rd l0 0) / 16=4 /\ (wrap64 (4*(wrap64 (Go.bits .and .u8 (rd l0 0) 15))))>=20 /\ (wrap64 (qh))>=(wrap64 (4*(wrap64 (Go.bits .and .u8 (rd l0 0) 15))))) (hs:(l0.length:Int)<(wrap64 (qh))):
  Calls Try.prog 95 #[.slice A0 l0.length c0] w fun e w'=>e= .panicked [{v:= .iface 163 (.agg #[.int .i64 20]),recovered:=false}] /\ Below w.heap.size w w':=by
 have NP:=Try.underlying73;have gh:=aa.mk hr0;have jC:=aa.mk hc0;clear hr0 hc0;have HB:=gj w;have iS:decide ((l0.length:Int)>=(wrap64 (qh)))=false:=gO (by omega);have HD:=aa.mk iS;clear iS hs;have KL:aa (dY.f (decide ((wrap64 (qh))>=(wrap64 (4*(wrap64 (Go.bits .and .u8 (rd l0 0) 15)))))) 21=some ()):=⟨by unfold dY.f;rw [bS hf.2.2,au rfl]⟩
 have nX:(((rd l0 0) / 16)==4)=true:=fH hf.1;have CB:(((rd l0 0) / 16) !=4)=false:=kO hf.1;have wT:decide (20<=(wrap64 (4*(wrap64 (Go.bits .and .u8 (rd l0 0) 15)))))=true:=bS hf.2.1;clear hf;have A2:aa (dY.f (decide ((l0.length:Int)>=20)) 20=some ()):=⟨by unfold dY.f;rw [bS hlen,au rfl]⟩
 have A4:=aa.mk h2;have oY:decide (0<(l0.length:Int))=true:=bS (by omega);have qP:decide (0<l0.length)=true:=bS (by omega);clear hlen h2
 go_enter Try.func95,Try.ntmps95
 try go_wp2_with (first|((with_reducible refine aA (N:=2) rfl ?_);refine aC ?hg (N:=2) ?hd (cs:= #[.int .u8 0,.int .u8 0,.int .u8 0,.int .u16 0,.int .u8 0,.int .u16 0,.int .u32 0,.int .u32 0,.slice none 0 0,.slice none 0 0]) (t:=73) ?hr ?_;(case hd=>rfl);(case hg=>rfl);(case hr=>first|(go_simp;done)|(go_simp;rfl));intro eO hg w6 bK hb;have aJ:=aa.mk (aq (bz HB) hb);have aQ:=aa.mk (bK);have bt:=aa.mk ((by rw [hg];exact (af (bz HB)):w.heap.size<=eO));have cr:=aa.mk ((by rw [hg];exact (af (bz HB)):w.heap.size<=eO));clear HB;have HB:=aJ;have eU:=aQ;have fM:=bt;have Mu:=cr;clear aJ aQ bt cr;clear hb bK hg)|((with_reducible refine ay (f:=117) rfl ?_);refine gL 9 Try.func117 #[.bool (decide ((l0.length:Int)>=20)),.int .i64 20] ?_;(with_reducible refine (dY.calls (decide ((l0.length:Int)>=20)) 20 _ A2.out).mono ?_);rintro e w' ⟨rfl,⟨nd,rfl⟩⟩;refine ⟨_,rfl, ?_⟩))
 (try (rw [fg w6];generalize j5:World.drewN w6 _=w6;have aJ:aa (w6.heap[eO]?=some (.cells #[.int .u8 0,.int .u8 0,.int .u8 0,.int .u16 0,.int .u8 0,.int .u16 0,.int .u32 0,.int .u32 0,.slice none 0 0,.slice none 0 0] 73 (0,0))):=⟨by rw [<- j5];exact (kz eU)⟩;have aQ:aa (Below w.heap.size w w6):=⟨by rw [<- j5];exact bz HB⟩;clear eU HB j5;have eU:=aJ;have HB:=aQ;clear aJ aQ))
 have aJ:=aa.mk (aK eU.out);have aQ:=aa.mk (bf HB.out);clear eU;clear HB;have eU:=aJ;have HB:=aQ;clear aJ aQ;have xS:0<=(0:Int):=(by omega)
 have xT:0<(l0.length:Int):=gD;obtain ⟨jl,KK,gN⟩:=Kd.dB gh.out 0 xS xT;have gR:=gN
 (try rw [show ((0:Int)).toNat=0 from rfl] at gR)
 (try rw [show 0*1=0 from rfl] at gR)
 (try rw [Addr.add_zero'] at gR)
 cases KK
 have Qf:(0<l0.length)=True:=eq_true (by omega)
 (try rw [show ((0:Int)).toNat=0 from rfl] at gN)
 (try rw [Addr.add_zero'] at gN)
 replace gN:=(HB.out.cell (dA w _ gN)).trans gN;replace xS:=eq_true xS;replace xT:=eq_true xT;refine dg (n:=11) (S:=fun w'=>w'.cell? jl=some (.int .u8 (rd l0 0))) (ds:=[]) #[false,false,false,false,false,false,false,false,false,false,false] (by kernel_rfl) rfl rfl (((HB.out.cell (dA w _ gR)).trans gR)) (fun hHeld=> ?_);refine bH aY.TX aY.Mt (fun az dW=> ?_);generalize w6.drew=w7 at eU HB gN hHeld|-
 refine pz 0 10 az ?_;refine pz 1 11 az ?_;refine pz 6 16 az ?_;refine tz 2 12 az dW hHeld ?_;refine pz 3 13 az ?_;refine pz 4 14 az ?_;refine pz 5 15 az ?_;refine oz 7 (some 17) az (fun K hK=> ?_);refine gG Try.func118 #[.slice (some jl) l0.length c0,.int .i64 2] ?_
 with_reducible refine (dw.calls _ _ l0 2 qh _ ?aG ?aH A4.out).mono ?_
 (case aG=>exact Kd.aU gh.out (bz HB))
 (case aH=>exact jC.out)
 rintro e w' ⟨rfl,⟨nd,rfl⟩⟩;refine ⟨_,rfl, ?_⟩;refine hK.out _ _ (((HB.out.cell (dA w _ gR)).trans gR)) (fun hHeld=> ?_);clear hK K;refine nz 17 ?_;refine pz 8 18 az ?_;refine pz 9 3 az ?_;refine pz 10 4 az ?_;refine dz az ?_
 go_upto_region 3 with (fail)
 (first|rw [nX]|(simp only [jk,mo];rw [nX])|skip)
 have o4:0<=(0:Int):=(by omega)
 have o5:0<(l0.length:Int):=gD;obtain ⟨sI,yF,eJ⟩:=Kd.dB gh.out 0 o4 o5;obtain rfl:jl=sI:=(by injection yF)
 have CG:(0<l0.length)=True:=eq_true (by omega)
 (try rw [show ((0:Int)).toNat=0 from rfl] at eJ)
 (try rw [Addr.add_zero'] at eJ)
 replace eJ:=(HB.out.cell (dA w _ eJ)).trans eJ;replace o4:=eq_true o4;replace o5:=eq_true o5
 go_wp2_with (first|((with_reducible refine ay (f:=117) rfl ?_);refine gL 33 Try.func117 #[.bool (decide ((wrap64 (qh))>=(wrap64 (4*(wrap64 (Go.bits .and .u8 (rd l0 0) 15)))))),.int .i64 21] ?_;(with_reducible refine (dY.calls (decide ((wrap64 (qh))>=(wrap64 (4*(wrap64 (Go.bits .and .u8 (rd l0 0) 15)))))) 21 _ KL.out).mono ?_);rintro e w' ⟨rfl,⟨nd,rfl⟩⟩;refine ⟨_,rfl, ?_⟩)|((with_reducible refine ay (f:=117) rfl ?_);refine cX.EM (some 38) rfl rfl Try.func117 (by kernel_rfl) rfl #[.bool (decide ((l0.length:Int)>=(wrap64 (qh)))),.int .i64 20] rfl (by (try simp only [List.map_toArray,List.map_cons,List.map_nil]);first|done|rfl|(simp only [List.length_drop,List.length_take];rfl)|(go_simp;done)|(simp [Act.eval,IntKind.signed];done)|(simp [Act.eval,IntKind.signed];rfl)) ?_;(with_reducible refine (dY.panics (decide ((l0.length:Int)>=(wrap64 (qh)))) 20 _ HD.out).mono ?_);rintro e w' ⟨rfl,⟨nd,rfl⟩⟩;refine ⟨_,rfl, ?_⟩;exact ⟨rfl,rfl,bz HB⟩))
theorem aY.Al6 (k:Nat) (qh Qx NR:Int) (A0:Option Addr) (c0:Nat) (l0:List Int) (w:World) (hr0:Kd.C (Kd.int .u8) w A0 l0.length l0) (hc0:l0.length<=c0) (hlen:(l0.length:Int)>=20) (h2:dw.f l0 2=some qh) (hf:(rd l0 0) / 16=4 /\ (wrap64 (4*(wrap64 (Go.bits .and .u8 (rd l0 0) 15))))>=20 /\ (wrap64 (qh))>=(wrap64 (4*(wrap64 (Go.bits .and .u8 (rd l0 0) 15))))) (hs:(l0.length:Int)>=(wrap64 (qh))) (ha:gF.f k 0 (l0.take ((wrap64 (4*(wrap64 (Go.bits .and .u8 (rd l0 0) 15)))):Int).toNat)=some Qx) (ah:eB.f k Qx=some NR) (hx:NR≠65535):
  Calls Try.prog 95 #[.slice A0 l0.length c0] w fun e w'=>e= .panicked [{v:= .iface 163 (.agg #[.int .i64 22]),recovered:=false}] /\ Below w.heap.size w w':=by
 have NP:=Try.underlying73;have gh:=aa.mk hr0;have jC:=aa.mk hc0;clear hr0 hc0;have HB:=gj w;have HD:aa ((NR==65535)=false):=⟨fc hx⟩
 clear hx;have O5:aa (dY.f (decide ((l0.length:Int)>=(wrap64 (qh)))) 20=some ()):=⟨by unfold dY.f;rw [bS hs,au rfl]⟩
 have O7:=aa.mk ha;have NJ:=aa.mk ah;have EJ:decide (0<=(wrap64 (4*(wrap64 (Go.bits .and .u8 (rd l0 0) 15)))))=true:=bS (by omega);have Mv:decide ((wrap64 (4*(wrap64 (Go.bits .and .u8 (rd l0 0) 15))))<=(l0.length:Int))=true:=bS (by omega);have wQ:=eq_true (of_decide_eq_true EJ);have Qg:=eq_true (of_decide_eq_true Mv);have KL:aa (dY.f (decide ((wrap64 (qh))>=(wrap64 (4*(wrap64 (Go.bits .and .u8 (rd l0 0) 15)))))) 21=some ()):=⟨by unfold dY.f;rw [bS hf.2.2,au rfl]⟩
 have nX:(((rd l0 0) / 16)==4)=true:=fH hf.1;have CB:(((rd l0 0) / 16) !=4)=false:=kO hf.1;have wT:decide (20<=(wrap64 (4*(wrap64 (Go.bits .and .u8 (rd l0 0) 15)))))=true:=bS hf.2.1;clear hf hs ha ah;have A2:aa (dY.f (decide ((l0.length:Int)>=20)) 20=some ()):=⟨by unfold dY.f;rw [bS hlen,au rfl]⟩
 have A4:=aa.mk h2;have oY:decide (0<(l0.length:Int))=true:=bS (by omega);have qP:decide (0<l0.length)=true:=bS (by omega);clear hlen h2
 go_enter Try.func95,Try.ntmps95
 try go_wp2_with (first|((with_reducible refine aA (N:=2) rfl ?_);refine aC ?hg (N:=2) ?hd (cs:= #[.int .u8 0,.int .u8 0,.int .u8 0,.int .u16 0,.int .u8 0,.int .u16 0,.int .u32 0,.int .u32 0,.slice none 0 0,.slice none 0 0]) (t:=73) ?hr ?_;(case hd=>rfl);(case hg=>rfl);(case hr=>first|(go_simp;done)|(go_simp;rfl));intro eO hg w6 bK hb;have aJ:=aa.mk (aq (bz HB) hb);have aQ:=aa.mk (bK);have bt:=aa.mk ((by rw [hg];exact (af (bz HB)):w.heap.size<=eO));have cr:=aa.mk ((by rw [hg];exact (af (bz HB)):w.heap.size<=eO));clear HB;have HB:=aJ;have eU:=aQ;have fM:=bt;have Mu:=cr;clear aJ aQ bt cr;clear hb bK hg)|((with_reducible refine ay (f:=117) rfl ?_);refine gL 9 Try.func117 #[.bool (decide ((l0.length:Int)>=20)),.int .i64 20] ?_;(with_reducible refine (dY.calls (decide ((l0.length:Int)>=20)) 20 _ A2.out).mono ?_);rintro e w' ⟨rfl,⟨nd,rfl⟩⟩;refine ⟨_,rfl, ?_⟩))
 (try (rw [fg w6];generalize j5:World.drewN w6 _=w6;have aJ:aa (w6.heap[eO]?=some (.cells #[.int .u8 0,.int .u8 0,.int .u8 0,.int .u16 0,.int .u8 0,.int .u16 0,.int .u32 0,.int .u32 0,.slice none 0 0,.slice none 0 0] 73 (0,0))):=⟨by rw [<- j5];exact (kz eU)⟩;have aQ:aa (Below w.heap.size w w6):=⟨by rw [<- j5];exact bz HB⟩;clear eU HB j5;have eU:=aJ;have HB:=aQ;clear aJ aQ))
 have aJ:=aa.mk (aK eU.out);have aQ:=aa.mk (bf HB.out);clear eU;clear HB;have eU:=aJ;have HB:=aQ;clear aJ aQ;have xS:0<=(0:Int):=(by omega)
 have xT:0<(l0.length:Int):=gD;obtain ⟨jl,KK,gN⟩:=Kd.dB gh.out 0 xS xT;have gR:=gN
 (try rw [show ((0:Int)).toNat=0 from rfl] at gR)
 (try rw [show 0*1=0 from rfl] at gR)
 (try rw [Addr.add_zero'] at gR)
 cases KK
 have Qf:(0<l0.length)=True:=eq_true (by omega)
 (try rw [show ((0:Int)).toNat=0 from rfl] at gN)
 (try rw [Addr.add_zero'] at gN)
 replace gN:=(HB.out.cell (dA w _ gN)).trans gN;replace xS:=eq_true xS;replace xT:=eq_true xT;refine dg (n:=11) (S:=fun w'=>w'.cell? jl=some (.int .u8 (rd l0 0))) (ds:=[]) #[false,false,false,false,false,false,false,false,false,false,false] (by kernel_rfl) rfl rfl (((HB.out.cell (dA w _ gR)).trans gR)) (fun hHeld=> ?_);refine bH aY.TX aY.Mt (fun az dW=> ?_);generalize w6.drew=w7 at eU HB gN hHeld|-
 refine pz 0 10 az ?_;refine pz 1 11 az ?_;refine pz 6 16 az ?_;refine tz 2 12 az dW hHeld ?_;refine pz 3 13 az ?_;refine pz 4 14 az ?_;refine pz 5 15 az ?_;refine oz 7 (some 17) az (fun K hK=> ?_);refine gG Try.func118 #[.slice (some jl) l0.length c0,.int .i64 2] ?_
 with_reducible refine (dw.calls _ _ l0 2 qh _ ?aG ?aH A4.out).mono ?_
 (case aG=>exact Kd.aU gh.out (bz HB))
 (case aH=>exact jC.out)
 rintro e w' ⟨rfl,⟨nd,rfl⟩⟩;refine ⟨_,rfl, ?_⟩;refine hK.out _ _ (((HB.out.cell (dA w _ gR)).trans gR)) (fun hHeld=> ?_);clear hK K;refine nz 17 ?_;refine pz 8 18 az ?_;refine pz 9 3 az ?_;refine pz 10 4 az ?_;refine dz az ?_
 go_upto_region 3 with (fail)
 (first|rw [nX]|(simp only [jk,mo];rw [nX])|skip)
 have o4:0<=(0:Int):=(by omega)
 have o5:0<(l0.length:Int):=gD;obtain ⟨sI,yF,eJ⟩:=Kd.dB gh.out 0 o4 o5;obtain rfl:jl=sI:=(by injection yF)
 have CG:(0<l0.length)=True:=eq_true (by omega)
 (try rw [show ((0:Int)).toNat=0 from rfl] at eJ)
 (try rw [Addr.add_zero'] at eJ)
 replace eJ:=(HB.out.cell (dA w _ eJ)).trans eJ;replace o4:=eq_true o4;replace o5:=eq_true o5
 go_upto_region 4 with (first|((with_reducible refine ay (f:=117) rfl ?_);refine gL 33 Try.func117 #[.bool (decide ((wrap64 (qh))>=(wrap64 (4*(wrap64 (Go.bits .and .u8 (rd l0 0) 15)))))),.int .i64 21] ?_;(with_reducible refine (dY.calls (decide ((wrap64 (qh))>=(wrap64 (4*(wrap64 (Go.bits .and .u8 (rd l0 0) 15)))))) 21 _ KL.out).mono ?_);rintro e w' ⟨rfl,⟨nd,rfl⟩⟩;refine ⟨_,rfl, ?_⟩))
 obtain ⟨lS,wu⟩:∃ j_:Int,(wrap64 (4*(wrap64 (Go.bits .and .u8 (rd l0 0) 15))))=j_:=⟨_,rfl⟩
 rw [wu] at O7 EJ Mv wQ Qg
 have ZF:(IntKind.i64.wrap (4*(wrap64 (Go.bits .and .u8 (rd l0 0) 15))))=lS:=(jk _).trans wu
 go_wp2_with (first|((with_reducible refine ay (f:=117) rfl ?_);refine gL 38 Try.func117 #[.bool (decide ((l0.length:Int)>=(wrap64 (qh)))),.int .i64 20] ?_;(with_reducible refine (dY.calls (decide ((l0.length:Int)>=(wrap64 (qh)))) 20 _ O5.out).mono ?_);rintro e w' ⟨rfl,⟨nd,rfl⟩⟩;refine ⟨_,rfl, ?_⟩;(try (rw [fg w7];generalize j5:World.drewN wc _=w7;have aJ:aa (w7.heap[eO]?=some (.cells #[.int .u8 0,.int .u8 0,.int .u8 0,.int .u16 0,.int .u8 0,.int .u16 0,.int .u32 0,.int .u32 0,.slice none 0 0,.slice none 0 0] 73 (0,0))):=⟨by rw [<- j5];exact (kz eU)⟩;have aQ:aa (Below w.heap.size w w7):=⟨by rw [<- j5];exact bz HB⟩;clear eU HB j5;have eU:=aJ;have HB:=aQ;clear aJ aQ));obtain ⟨AlJ,Iz,_,IA,_⟩:=info_parts gB;obtain ⟨ZH,Ql,Qm⟩:=oK (P:=Try.prog) (Value.int .u8) 0 165 5 .i64 Try.underlying165 Iz IA (some jl) c0 l0 (lS) gD gD jC.out;have Qn:=aa.mk (Kd.dD (h1:=fun _=>rfl) (Ql _ (Kd.dc gh.out)));have Qo:=aa.mk Qm;clear Ql Qm Iz IA)|((with_reducible refine ay (f:=116) rfl ?_);refine tQ (some 42) rfl rfl Try.func116 (by kernel_rfl) rfl #[.int .u32 0,.slice (some jl) (l0.take ((lS):Int).toNat).length c0] rfl (by (try simp only [List.map_toArray,List.map_cons,List.map_nil]);first|done|(rw [show (l0.take ((lS):Int).toNat).length=(lS).toNat from (by rw [List.length_take];have h_:((lS):Int)<=(l0.length:Int):=gD;omega)]<;>rfl)|(simp only [wu];rfl)|rfl|(simp only [List.length_drop,List.length_take];rfl)|(go_simp;done)|(simp [Act.eval,IntKind.signed];done)|(simp [Act.eval,IntKind.signed];rfl)) ?_;(with_reducible refine (gF.calls k 0 _ _ (l0.take ((lS):Int).toNat) Qx _ ?aG ?aH O7.out).mono ?_);(case aG=>exact Kd.aU Qn.out (bz HB));(case aH=>exact Qo.out);rintro e Ak ⟨rfl,hb⟩;refine ⟨_,rfl, ?_⟩;have aJ:=aa.mk (bn (kz eU) hb);have aQ:=aa.mk (aq (bz HB) hb);clear eU;clear HB;have eU:=aJ;have HB:=aQ;clear aJ aQ;(try clear hb);(try clear hb2);(try clear hk);(try clear hi))|((with_reducible refine ay (f:=115) rfl ?_);refine gL 43 Try.func115 #[.int .u32 Qx] ?_;(with_reducible refine (eB.calls k Qx NR _ NJ.out).mono ?_);rintro e w' ⟨rfl,⟨nd,rfl⟩⟩;refine ⟨_,rfl, ?_⟩;(try (rw [fg Ak];generalize j5:World.drewN Ak _=Ak;have aJ:aa (Ak.heap[eO]?=some (.cells #[.int .u8 0,.int .u8 0,.int .u8 0,.int .u16 0,.int .u8 0,.int .u16 0,.int .u32 0,.int .u32 0,.slice none 0 0,.slice none 0 0] 73 (0,0))):=⟨by rw [<- j5];exact (kz eU)⟩;have aQ:aa (Below w.heap.size w Ak):=⟨by rw [<- j5];exact bz HB⟩;clear eU HB j5;have eU:=aJ;have HB:=aQ;clear aJ aQ)))|((with_reducible refine ay (f:=117) rfl ?_);refine cX.EM (some 45) rfl rfl Try.func117 (by kernel_rfl) rfl #[.bool (NR==65535),.int .i64 22] rfl (by (try simp only [List.map_toArray,List.map_cons,List.map_nil]);first|done|rfl|(simp only [List.length_drop,List.length_take];rfl)|(go_simp;done)|(simp [Act.eval,IntKind.signed];done)|(simp [Act.eval,IntKind.signed];rfl)) ?_;(with_reducible refine (dY.panics (NR==65535) 22 _ HD.out).mono ?_);rintro e w' ⟨rfl,⟨nd,rfl⟩⟩;refine ⟨_,rfl, ?_⟩;exact ⟨rfl,rfl,bz HB⟩))
theorem cX.told {tmps:Array Value} {w:World} {gp ge:Nat} {cs:Array Value} {x:Int} (hs:cs.size=10) (hp:tmps.getD 2 undef= .pointer (some ⟨gp,0,none⟩)) (hg:w.heap[gp]?=some (.cells cs 73 (0,0)))
  (he:tmps.getD 3 undef= .pointer (some ⟨ge,0,none⟩)) (hx:w.heap[ge]?=some (.cells #[.int .i64 x] 49 (0,0))):(results Try.f57 tmps).run Try.prog w= .ok (.tuple #[.agg cs,.int .i64 x]) w:=by
 have h1:tmps[2]?.getD undef= .pointer (some ⟨gp,0,none⟩):=by simpa using hp
 have h2:tmps[3]?.getD undef= .pointer (some ⟨ge,0,none⟩):=by simpa using he
 have hc:w.cell? ⟨ge,0,none⟩=some (.int .i64 x):=(aE hx 0).trans rfl
 have hl:(loadVar 49 ⟨ge,0,none⟩).run Try.prog w= .ok (.int .i64 x) w:=by
  have hu:=Try.underlying49;have hagg:(isAgg 49).run Try.prog w= .ok false w:=by kernel_rfl
  simp [loadVar,hu,hc,hagg]
 simp [results,Try.results57,h1,h2,asAddr,run_loadVar_row w gp 73 73 cs (0,0) _ hg Try.underlying73 rfl (by rw [hs];kernel_rfl),hl]
theorem cX.fail (x:Int) (A0:Option Addr) (c0 n:Nat) (w:World) (hp:∀ W,Below w.heap.size w W ->Calls Try.prog 95 #[.slice A0 n c0] W fun e w'=>e= .panicked [{v:= .iface 163 (.agg #[.int .i64 x]),recovered:=false}] /\ Below W.heap.size W w'):
  Calls Try.prog 57 #[.slice A0 n c0] w fun e w'=>e= .returned (.tuple #[.agg #[.int .u8 0,.int .u8 0,.int .u8 0,.int .u16 0,.int .u8 0,.int .u16 0,.int .u32 0,.int .u32 0,.slice none 0 0,.slice none 0 0],.int .i64 x]) /\ Below w.heap.size w w':=by
 have HB:=gj w;have HC:=aa.mk hp;clear hp;have hmf:∀ (fn:Fn) (first cap:Array Value) (w:World),(Instr.makeFunc fn first cap).run Try.prog w= .ok (.func fn first cap) w:=fun _ _ _ _=>rfl
 go_enter_defers Try.func57,Try.ntmps57
 go_wp2_with (first|((with_reducible refine aA (N:=2) rfl ?_);refine aC ?hg (N:=2) ?hd (cs:= #[.int .u8 0,.int .u8 0,.int .u8 0,.int .u16 0,.int .u8 0,.int .u16 0,.int .u32 0,.int .u32 0,.slice none 0 0,.slice none 0 0]) (t:=73) ?hr ?_;(case hd=>rfl);(case hg=>rfl);(case hr=>first|(go_simp;done)|(go_simp;rfl));intro gp hg w1 bK hb;have aJ:=aa.mk (aq (bz HB) hb);have HP:=aa.mk bK;have GP:=aa.mk ((by rw [hg];exact (af (bz HB))):w.heap.size<=gp);clear HB;have HB:=aJ;clear aJ hb bK hg)|((with_reducible refine aA (N:=3) rfl ?_);refine aC ?hg (N:=3) ?hd (cs:= #[.int .i64 0]) (t:=49) ?hr ?_;(case hd=>rfl);(case hg=>rfl);(case hr=>first|(go_simp;done)|(go_simp;rfl));intro ge hg w2 bK hb;have GN:=aa.mk (show gp≠ge by rw [hg];exact Nat.ne_of_lt (mm (kz HP)));have aQ:=aa.mk (bn (kz HP) hb);have aJ:=aa.mk (aq (bz HB) hb);have HE:=aa.mk bK;have GE:=aa.mk ((by rw [hg];exact (af (bz HB))):w.heap.size<=ge);clear HB HP;have HB:=aJ;have HP:=aQ;clear aJ aQ hb bK hg))
 refine (HC.out _ (bz HB)).mono ?_;rintro e w' ⟨rfl,hb⟩;have BV:=aa.mk (bn (kz HP) hb);have HE3:=aa.mk (bn (kz HE) hb);have HB3:=aa.mk (aq (bz HB) hb);clear hb HP HE HB
 show Leaves _ _ _ _ _ _ _
 refine leaves_cons (f:=94) (args:= #[.pointer (some ⟨gp,0,none⟩),.pointer (some ⟨ge,0,none⟩)]) (by simp) (by simp [go_sem]) ?_;refine (cX.Bw x w w' w.heap.size gp ge BV.out HE3.out GN.out HB3.out GP.out GE.out).mono ?_;rintro e u' w'' ⟨rfl,rfl,f1,f2,f3⟩;exact ⟨_,cX.told rfl rfl f1 rfl f2,rfl,f3⟩
theorem cX.done (k:Nat) (A0:Option Addr) (c0:Nat) (l0:List Int) (r1:Int) (r2:Int) (r3:Int) (r4:Int) (r5:Int) (r6:Int) (r7:Int) (r8:Int) (r9:List Int) (uN:List Int) (w:World) (hr0:Kd.C (Kd.int .u8) w A0 l0.length l0) (hc0:l0.length<=c0) (h:aY.f k l0=some (r1,r2,r3,r4,r5,r6,r7,r8,r9,uN)):
  Calls Try.prog 57 #[.slice A0 l0.length c0] w fun e w'=>∃ BS BU:Value,e= .returned (.tuple #[.agg #[.int .u8 r1,.int .u8 r2,.int .u8 r3,.int .u16 r4,.int .u8 r5,.int .u16 r6,.int .u32 r7,.int .u32 r8,BS,BU],.int .i64 0]) /\ Kd.R (Kd.int .u8) 5 w' w.heap.size (fun k_=>some k_≠(BU:Value).ownBlock) BS r9 /\ Kd.R (Kd.int .u8) 5 w' w.heap.size (fun k_=>some k_≠(BS:Value).ownBlock) BU uN /\ Below w.heap.size w w':=by
 have HB:=gj w;have gh:=aa.mk hr0;have jC:=aa.mk hc0;have HH:=aa.mk h;clear hr0 hc0 h;have NP:=Try.underlying73;have hmf:∀ (fn:Fn) (first cap:Array Value) (w:World),(Instr.makeFunc fn first cap).run Try.prog w= .ok (.func fn first cap) w:=fun _ _ _ _=>rfl
 go_enter_defers Try.func57,Try.ntmps57
 go_wp2_with (first|((with_reducible refine aA (N:=2) rfl ?_);refine aC ?hg (N:=2) ?hd (cs:= #[.int .u8 0,.int .u8 0,.int .u8 0,.int .u16 0,.int .u8 0,.int .u16 0,.int .u32 0,.int .u32 0,.slice none 0 0,.slice none 0 0]) (t:=73) ?hr ?_;(case hd=>rfl);(case hg=>rfl);(case hr=>first|(go_simp;done)|(go_simp;rfl));intro gp hg w1 bK hb;have aJ:=aa.mk (aq (bz HB) hb);have HP:=aa.mk bK;have GP:=aa.mk ((by rw [hg];exact (af (bz HB))):w.heap.size<=gp);clear HB;have HB:=aJ;clear aJ hb bK hg)|((with_reducible refine aA (N:=3) rfl ?_);refine aC ?hg (N:=3) ?hd (cs:= #[.int .i64 0]) (t:=49) ?hr ?_;(case hd=>rfl);(case hg=>rfl);(case hr=>first|(go_simp;done)|(go_simp;rfl));intro ge hg w2 bK hb;have GN:=aa.mk (show gp≠ge by rw [hg];exact Nat.ne_of_lt (mm (kz HP)));have aQ:=aa.mk (bn (kz HP) hb);have aJ:=aa.mk (aq (bz HB) hb);have HE:=aa.mk bK;have GE:=aa.mk ((by rw [hg];exact (af (bz HB))):w.heap.size<=ge);clear HB HP;have HB:=aJ;have HP:=aQ;clear aJ aQ hb bK hg))
 refine (aY.calls k A0 c0 l0 r1 r2 r3 r4 r5 r6 r7 r8 r9 uN _ (Kd.aU gh.out (bz HB)) jC.out HH.out).mono ?_;rintro e w' ⟨BS,BU,rfl,El,xR,hb⟩;obtain ⟨B8,d8,rfl⟩:=Kd.da El;obtain ⟨B9,d9,rfl⟩:=Kd.da xR;have BV:=aa.mk (bn (kz HP) hb);have HE3:=aa.mk (bn (kz HE) hb);have HB3:=aa.mk (aq (bz HB) hb);have HLP:gp<w2.heap.size:=mm HP.out;have Pa:ge<w2.heap.size:=mm HE.out;have HS:w.heap.size<=w2.heap.size:=af (bz HB);have O8:=aa.mk El;have O9:=aa.mk xR;clear hb HP HE HB El xR
 (try dsimp only)
 have hs0:w'.cell? ⟨gp,0,none⟩=some (.int .u8 0):=cz BV.out 0 rfl;have KO:=ae BV.out 0;have hs1:w'.cell? ⟨gp,1,none⟩=some (.int .u8 0):=cz BV.out 1 rfl;have ZT:=ae BV.out 1;have hs2:w'.cell? ⟨gp,2,none⟩=some (.int .u8 0):=cz BV.out 2 rfl;have ZU:=ae BV.out 2;have hs3:w'.cell? ⟨gp,3,none⟩=some (.int .u16 0):=cz BV.out 3 rfl;have ZV:=ae BV.out 3;have hs4:w'.cell? ⟨gp,4,none⟩=some (.int .u8 0):=cz BV.out 4 rfl;have ZW:=ae BV.out 4;have hs5:w'.cell? ⟨gp,5,none⟩=some (.int .u16 0):=cz BV.out 5 rfl;have ZX:=ae BV.out 5;have hs6:w'.cell? ⟨gp,6,none⟩=some (.int .u32 0):=cz BV.out 6 rfl;have ZY:=ae BV.out 6;have hs7:w'.cell? ⟨gp,7,none⟩=some (.int .u32 0):=cz BV.out 7 rfl;have ZZ:=ae BV.out 7
 have hs8:w'.cell? ⟨gp,8,none⟩=some (.slice none 0 0):=cz BV.out 8 rfl;have Z0:=ae BV.out 8;have hs9:w'.cell? ⟨gp,9,none⟩=some (.slice none 0 0):=cz BV.out 9 rfl;have Z1:=ae BV.out 9;have hse:w'.cell? ⟨ge,0,none⟩=some (.int .i64 0):=cz HE3.out 0 rfl;have Al7:=ae HE3.out 0;have Aeh:gp≠ge:=GN.out;have hneg:ge≠gp:=fun e=>Aeh e.symm
 go_wp2
 clear hs0 KO hs1 ZT hs2 ZU hs3 ZV hs4 ZW hs5 ZX hs6 ZY hs7 ZZ hs8 Z0 hs9 Z1;have b0:=BV.out;have e0:=HE3.out;have l0_:=HB3.out;have u0:=O8.out;have t0:=O9.out;have b1:=bM (cs':= #[.int .u8 r1,.int .u8 0,.int .u8 0,.int .u16 0,.int .u8 0,.int .u16 0,.int .u32 0,.int .u32 0,.slice none 0 0,.slice none 0 0]) b0 0 (.int .u8 r1) rfl;have e1:=jq e0 (p:=⟨gp,0,none⟩) hneg (.int .u8 r1);have l1_:=Below.setCell (p:=⟨gp,0,none⟩) l0_ GP.out (.int .u8 r1);have u1:=Kd.og u0 b0 (by decide) 0 (.int .u8 r1);have t1:=Kd.og t0 b0 (by decide) 0 (.int .u8 r1);clear b0 e0 l0_ u0 t0;have b2:=bM (cs':= #[.int .u8 r1,.int .u8 r2,.int .u8 0,.int .u16 0,.int .u8 0,.int .u16 0,.int .u32 0,.int .u32 0,.slice none 0 0,.slice none 0 0]) b1 1 (.int .u8 r2) rfl
 have e2:=jq e1 (p:=⟨gp,1,none⟩) hneg (.int .u8 r2);have l2_:=Below.setCell (p:=⟨gp,1,none⟩) l1_ GP.out (.int .u8 r2);have u2:=Kd.og u1 b1 (by decide) 1 (.int .u8 r2);have t2:=Kd.og t1 b1 (by decide) 1 (.int .u8 r2);clear b1 e1 l1_ u1 t1;have b3:=bM (cs':= #[.int .u8 r1,.int .u8 r2,.int .u8 r3,.int .u16 0,.int .u8 0,.int .u16 0,.int .u32 0,.int .u32 0,.slice none 0 0,.slice none 0 0]) b2 2 (.int .u8 r3) rfl;have e3:=jq e2 (p:=⟨gp,2,none⟩) hneg (.int .u8 r3);have l3_:=Below.setCell (p:=⟨gp,2,none⟩) l2_ GP.out (.int .u8 r3);have u3:=Kd.og u2 b2 (by decide) 2 (.int .u8 r3);have t3:=Kd.og t2 b2 (by decide) 2 (.int .u8 r3);clear b2 e2 l2_ u2 t2
 have b4:=bM (cs':= #[.int .u8 r1,.int .u8 r2,.int .u8 r3,.int .u16 r4,.int .u8 0,.int .u16 0,.int .u32 0,.int .u32 0,.slice none 0 0,.slice none 0 0]) b3 3 (.int .u16 r4) rfl;have e4:=jq e3 (p:=⟨gp,3,none⟩) hneg (.int .u16 r4);have l4_:=Below.setCell (p:=⟨gp,3,none⟩) l3_ GP.out (.int .u16 r4);have u4:=Kd.og u3 b3 (by decide) 3 (.int .u16 r4);have t4:=Kd.og t3 b3 (by decide) 3 (.int .u16 r4);clear b3 e3 l3_ u3 t3;have b5:=bM (cs':= #[.int .u8 r1,.int .u8 r2,.int .u8 r3,.int .u16 r4,.int .u8 r5,.int .u16 0,.int .u32 0,.int .u32 0,.slice none 0 0,.slice none 0 0]) b4 4 (.int .u8 r5) rfl;have e5:=jq e4 (p:=⟨gp,4,none⟩) hneg (.int .u8 r5);have l5_:=Below.setCell (p:=⟨gp,4,none⟩) l4_ GP.out (.int .u8 r5);have u5:=Kd.og u4 b4 (by decide) 4 (.int .u8 r5)
 have t5:=Kd.og t4 b4 (by decide) 4 (.int .u8 r5);clear b4 e4 l4_ u4 t4;have b6:=bM (cs':= #[.int .u8 r1,.int .u8 r2,.int .u8 r3,.int .u16 r4,.int .u8 r5,.int .u16 r6,.int .u32 0,.int .u32 0,.slice none 0 0,.slice none 0 0]) b5 5 (.int .u16 r6) rfl;have e6:=jq e5 (p:=⟨gp,5,none⟩) hneg (.int .u16 r6);have l6_:=Below.setCell (p:=⟨gp,5,none⟩) l5_ GP.out (.int .u16 r6);have u6:=Kd.og u5 b5 (by decide) 5 (.int .u16 r6);have t6:=Kd.og t5 b5 (by decide) 5 (.int .u16 r6);clear b5 e5 l5_ u5 t5;have b7:=bM (cs':= #[.int .u8 r1,.int .u8 r2,.int .u8 r3,.int .u16 r4,.int .u8 r5,.int .u16 r6,.int .u32 r7,.int .u32 0,.slice none 0 0,.slice none 0 0]) b6 6 (.int .u32 r7) rfl;have e7:=jq e6 (p:=⟨gp,6,none⟩) hneg (.int .u32 r7);have l7_:=Below.setCell (p:=⟨gp,6,none⟩) l6_ GP.out (.int .u32 r7)
 have u7:=Kd.og u6 b6 (by decide) 6 (.int .u32 r7);have t7:=Kd.og t6 b6 (by decide) 6 (.int .u32 r7);clear b6 e6 l6_ u6 t6;have b8:=bM (cs':= #[.int .u8 r1,.int .u8 r2,.int .u8 r3,.int .u16 r4,.int .u8 r5,.int .u16 r6,.int .u32 r7,.int .u32 r8,.slice none 0 0,.slice none 0 0]) b7 7 (.int .u32 r8) rfl;have e8:=jq e7 (p:=⟨gp,7,none⟩) hneg (.int .u32 r8);have l8_:=Below.setCell (p:=⟨gp,7,none⟩) l7_ GP.out (.int .u32 r8);have u8:=Kd.og u7 b7 (by decide) 7 (.int .u32 r8);have t8:=Kd.og t7 b7 (by decide) 7 (.int .u32 r8);clear b7 e7 l7_ u7 t7;have b9:=bM (cs':= #[.int .u8 r1,.int .u8 r2,.int .u8 r3,.int .u16 r4,.int .u8 r5,.int .u16 r6,.int .u32 r7,.int .u32 r8,.slice B8 r9.length d8,.slice none 0 0]) b8 8 (.slice B8 r9.length d8) rfl;have e9:=jq e8 (p:=⟨gp,8,none⟩) hneg (.slice B8 r9.length d8)
 have l9_:=Below.setCell (p:=⟨gp,8,none⟩) l8_ GP.out (.slice B8 r9.length d8);have u9:=Kd.og u8 b8 (by decide) 8 (.slice B8 r9.length d8);have t9:=Kd.og t8 b8 (by decide) 8 (.slice B8 r9.length d8);clear b8 e8 l8_ u8 t8;have b10:=bM (cs':= #[.int .u8 r1,.int .u8 r2,.int .u8 r3,.int .u16 r4,.int .u8 r5,.int .u16 r6,.int .u32 r7,.int .u32 r8,.slice B8 r9.length d8,.slice B9 uN.length d9]) b9 9 (.slice B9 uN.length d9) rfl;have e10:=jq e9 (p:=⟨gp,9,none⟩) hneg (.slice B9 uN.length d9);have Al9:=Below.setCell (p:=⟨gp,9,none⟩) l9_ GP.out (.slice B9 uN.length d9);have u10:=Kd.og u9 b9 (by decide) 9 (.slice B9 uN.length d9);have t10:=Kd.og t9 b9 (by decide) 9 (.slice B9 uN.length d9);clear b9 e9 l9_ u9 t9;have b11:=jq b10 (p:=⟨ge,0,none⟩) Aeh (.int .i64 0)
 have e11:=bM (cs':= #[.int .i64 0]) e10 0 (.int .i64 0) rfl;have Ama:=Below.setCell (p:=⟨ge,0,none⟩) Al9 GE.out (.int .i64 0);have u11:=Kd.og u10 e10 (by decide) 0 (.int .i64 0);have t11:=Kd.og t10 e10 (by decide) 0 (.int .i64 0);clear BV HE3 HB3 O8 O9 hse Al7
 show Leaves _ _ _ _ _ _ _
 refine leaves_cons (f:=94) (args:= #[.pointer (some ⟨gp,0,none⟩),.pointer (some ⟨ge,0,none⟩)]) (by simp) (by simp [go_sem]) ?_;refine (cX.KP ⟨gp,0,none⟩ ⟨ge,0,none⟩ _).mono ?_;rintro e u' w'' ⟨rfl,rfl,rfl⟩;exact ⟨_,cX.told rfl rfl b11 rfl e11,_,_,rfl,Kd.bP u11 HS,Kd.bP t11 HS,Ama⟩
def cX.f (k:Nat) (l0:List Int):Option (Int×Int×Int×Int×Int×Int×Int×Int×List Int×List Int×Int):=
 if (l0.length:Int)<20 then some (0,0,0,0,0,0,0,0,[],[],20) else (dw.f l0 2).bind fun t=>
 if (rd l0 0) / 16=4 /\ (wrap64 (4*(wrap64 (Go.bits .and .u8 (rd l0 0) 15))))>=20 /\ (wrap64 (t))>=(wrap64 (4*(wrap64 (Go.bits .and .u8 (rd l0 0) 15)))) then
  if (l0.length:Int)<(wrap64 (t)) then some (0,0,0,0,0,0,0,0,[],[],20) else
  (gF.f k 0 (l0.take ((wrap64 (4*(wrap64 (Go.bits .and .u8 (rd l0 0) 15)))):Int).toNat)).bind fun a=>(eB.f k a).bind fun b=>
  if b=65535 then (aY.f k l0).bind fun p=>some (p.1,p.2.1,p.2.2.1,p.2.2.2.1,p.2.2.2.2.1,p.2.2.2.2.2.1,p.2.2.2.2.2.2.1,p.2.2.2.2.2.2.2.1,p.2.2.2.2.2.2.2.2.1,p.2.2.2.2.2.2.2.2.2,0)
  else some (0,0,0,0,0,0,0,0,[],[],22)
 else some (0,0,0,0,0,0,0,0,[],[],21)
theorem cX.calls (k:Nat) (A0:Option Addr) (c0:Nat) (l0:List Int) (r1:Int) (r2:Int) (r3:Int) (r4:Int) (r5:Int) (r6:Int) (r7:Int) (r8:Int) (r9:List Int) (uN:List Int) (Cy:Int) (w:World) (hr0:Kd.C (Kd.int .u8) w A0 l0.length l0) (hc0:l0.length<=c0) (h:cX.f k l0=some (r1,r2,r3,r4,r5,r6,r7,r8,r9,uN,Cy)):
  Calls Try.prog 57 #[.slice A0 l0.length c0] w fun e w'=>∃ BS BU:Value,e= .returned (.tuple #[.agg #[.int .u8 r1,.int .u8 r2,.int .u8 r3,.int .u16 r4,.int .u8 r5,.int .u16 r6,.int .u32 r7,.int .u32 r8,BS,BU],.int .i64 Cy]) /\ Kd.R (Kd.int .u8) 5 w' w.heap.size (fun k_=>some k_≠(BU:Value).ownBlock) BS r9 /\ Kd.R (Kd.int .u8) 5 w' w.heap.size (fun k_=>some k_≠(BS:Value).ownBlock) BU uN /\ Below w.heap.size w w':=by
 have fail:∀ x:Int,(∀ W,Below w.heap.size w W ->Calls Try.prog 95 #[.slice A0 l0.length c0] W fun e w'=>e= .panicked [{v:= .iface 163 (.agg #[.int .i64 x]),recovered:=false}] /\ Below W.heap.size W w') ->some (0,0,0,0,0,0,0,0,([]:List Int),([]:List Int),x)=some (r1,r2,r3,r4,r5,r6,r7,r8,r9,uN,Cy) ->
   Calls Try.prog 57 #[.slice A0 l0.length c0] w fun e w'=>∃ BS BU:Value,e= .returned (.tuple #[.agg #[.int .u8 r1,.int .u8 r2,.int .u8 r3,.int .u16 r4,.int .u8 r5,.int .u16 r6,.int .u32 r7,.int .u32 r8,BS,BU],.int .i64 Cy]) /\ Kd.R (Kd.int .u8) 5 w' w.heap.size (fun k_=>some k_≠(BU:Value).ownBlock) BS r9 /\ Kd.R (Kd.int .u8) 5 w' w.heap.size (fun k_=>some k_≠(BS:Value).ownBlock) BU uN /\ Below w.heap.size w w':=by
  intro x hp hx;simp only [Option.some.injEq,Prod.mk.injEq] at hx
  obtain ⟨rfl,rfl,rfl,rfl,rfl,rfl,rfl,rfl,rfl,rfl,rfl⟩:=hx;refine (cX.fail x A0 c0 l0.length w hp).mono ?_;rintro e w' ⟨rfl,hb⟩;exact ⟨_,_,rfl,Kd.cl _ _ _ _ _,Kd.cl _ _ _ _ _,hb⟩
 unfold cX.f at h
 by_cases c1:(l0.length:Int)<20
 ·rw [au c1] at h
  exact fail 20 (fun W hW=>aY.Al3 A0 c0 l0 W (Kd.aU hr0 hW) hc0 c1) h
 ·rw [ax c1] at h
  obtain ⟨t,h2,h⟩:=cZ h;have c1':(l0.length:Int)>=20:=by omega
  by_cases c2:(rd l0 0) / 16=4 /\ (wrap64 (4*(wrap64 (Go.bits .and .u8 (rd l0 0) 15))))>=20 /\ (wrap64 (t))>=(wrap64 (4*(wrap64 (Go.bits .and .u8 (rd l0 0) 15))))
  ·rw [au c2] at h
   by_cases c3:(l0.length:Int)<(wrap64 (t))
   ·rw [au c3] at h
    exact fail 20 (fun W hW=>aY.Al5 t A0 c0 l0 W (Kd.aU hr0 hW) hc0 c1' h2 c2 c3) h
   ·rw [ax c3] at h
    obtain ⟨a,ha,h⟩:=cZ h;obtain ⟨b,hb,h⟩:=cZ h
    by_cases c4:b=65535
    ·rw [au c4] at h
     obtain ⟨p,hp,h⟩:=cZ h;obtain ⟨p1,p2,p3,p4,p5,p6,p7,p8,p9,p10⟩:=p;simp only [Option.some.injEq,Prod.mk.injEq] at h
     obtain ⟨rfl,rfl,rfl,rfl,rfl,rfl,rfl,rfl,rfl,rfl,rfl⟩:=h;exact cX.done k A0 c0 l0 _ _ _ _ _ _ _ _ _ _ w hr0 hc0 hp
    ·rw [ax c4] at h
     exact fail 22 (fun W hW=>aY.Al6 k t a b A0 c0 l0 W (Kd.aU hr0 hW) hc0 c1' h2 c2 (by omega) ha hb c4) h
  ·rw [ax c2] at h
   exact fail 21 (fun W hW=>aY.Al4 t A0 c0 l0 W (Kd.aU hr0 hW) hc0 c1' h2 c2) h
attribute [local go_sem] dF dG eG eH cQ cR dH dI
def mw.f (aV:Int) (bh:Int) (bp:Int) (fQ:List Int):Option (List Int×Int):=if (wrap64 (8+(fQ.length:Int)))>65535 then (some (([]:List Int),23)) else ((some (([(aV / 256) % 256,(aV) % 256,(bh / 256) % 256,(bh) % 256,((wrap64 (8+(fQ.length:Int))) / 256) % 256,(wrap64 (8+(fQ.length:Int))) % 256,(bp / 256) % 256,(bp) % 256]:List Int):List Int)).bind fun CL=>(if CL.length+fQ.length<140737488355328 then (some ((CL++fQ),0)) else (none)))
theorem mw.calls (aV:Int) (bh:Int) (bp:Int) (qi:Option Addr) (qj:Nat) (fQ:List Int) (r1:List Int) (r2:Int) (w:World) (wV:Kd.C (Kd.int .u8) w qi fQ.length fQ) (wW:fQ.length<=qj) (h:mw.f aV bh bp fQ=some (r1,r2)):
  Calls Try.prog 108 #[.agg #[.int .u16 aV,.int .u16 bh,.int .u16 bp,.slice qi fQ.length qj]] w fun e w'=>∃ o6:Value,e= .returned (.tuple #[o6,.int .i64 r2]) /\ Kd.R (Kd.int .u8) 5 w' w.heap.size (fun _=>True) o6 r1 /\ Below w.heap.size w w':=by
 have wB:=Try.underlying83;have EN:=aa.mk wV;have Mx:=aa.mk wW;clear wV wW;have HB:=gj w;have H:(if (wrap64 (8+(fQ.length:Int)))>65535 then (some (([]:List Int),23)) else ((some (([(aV / 256) % 256,(aV) % 256,(bh / 256) % 256,(bh) % 256,((wrap64 (8+(fQ.length:Int))) / 256) % 256,(wrap64 (8+(fQ.length:Int))) % 256,(bp / 256) % 256,(bp) % 256]:List Int):List Int)).bind fun CL=>(if CL.length+fQ.length<140737488355328 then (some ((CL++fQ),0)) else (none))))=some (r1,r2):=h;clear h
 by_cases c2:(wrap64 (8+(fQ.length:Int)))>65535
 ·rw [au c2] at H
  have kg:decide (65535<(wrap64 (8+(fQ.length:Int))))=true:=bS c2;clear c2;simp only [Option.some.injEq,Prod.mk.injEq] at H
  obtain ⟨rfl,rfl⟩:=H
  go_enter Try.func108,Try.ntmps108
  go_wp2_with (first|((with_reducible refine aA (N:=1) rfl ?_);refine aC ?hg (N:=1) ?hd (cs:= #[.int .u16 aV,.int .u16 bh,.int .u16 bp,.slice qi fQ.length qj]) (t:=83) ?hr ?_;(case hd=>rfl);(case hg=>rfl);(case hr=>first|(go_simp;done)|(go_simp;rfl));intro qQ hg w3 bK hb;have aJ:=aa.mk (aq (bz HB) hb);have aQ:=aa.mk (bK);have bt:=aa.mk ((by rw [hg];exact (af (bz HB)):w.heap.size<=qQ));have cr:=aa.mk ((by rw [hg];exact (af (bz HB)):w.heap.size<=qQ));clear HB;have HB:=aJ;have kH:=aQ;have Aei:=bt;have Aej:=cr;clear aJ aQ bt cr;clear hb bK hg;have pP:w3.cell? ⟨qQ,0,none⟩=some (.int .u16 aV):=cz kH.out 0 rfl;have pQ:w3.cell? ⟨qQ,1,none⟩=some (.int .u16 bh):=cz kH.out 1 rfl;have pR:w3.cell? ⟨qQ,2,none⟩=some (.int .u16 bp):=cz kH.out 2 rfl;have pS:w3.cell? ⟨qQ,3,none⟩=some (.slice qi fQ.length qj):=cz kH.out 3 rfl;have pT:=ae kH.out 0;have pU:=ae kH.out 1;have pV:=ae kH.out 2;have pW:=ae kH.out 3))
  go_ret2
  exact ⟨_,by first|rfl|(simp [aj,ak]<;>rfl)|(simp [*,aj,ak]<;>rfl),by first|exact Kd.cl _ _ _ _ _|exact Kd.ju _ _ _ _ _|exact Kd.jv _ _ _ _ _|exact Kd.jr _ _ _ _ _|exact Kd.js _ _ _ _ _,bz HB⟩
 ·rw [ax c2] at H
  have kg:decide (65535<(wrap64 (8+(fQ.length:Int))))=false:=gO c2;clear c2;obtain ⟨CL,IG⟩:∃ y_:List Int,y_=(([(aV / 256) % 256,(aV) % 256,(bh / 256) % 256,(bh) % 256,((wrap64 (8+(fQ.length:Int))) / 256) % 256,(wrap64 (8+(fQ.length:Int))) % 256,(bp / 256) % 256,(bp) % 256]:List Int)):=⟨_,rfl⟩
  replace H:(if CL.length+fQ.length<140737488355328 then (some ((CL++fQ),0)) else (none))=some (r1,r2):=by first|(rw [IG];with_reducible exact H)|(have kP:=(bA _ _).symm.trans H;rw [IG];with_reducible exact kP)|(have kP:=(bA _ _).symm.trans H;with_reducible exact kP)|with_reducible exact H|(rw [IG];exact H)|exact H
  have WD:=aa.mk IG;clear IG
  by_cases c5:CL.length+fQ.length<140737488355328
  ·rw [au c5] at H
   have Z2:=aa.mk c5;clear c5;obtain ⟨Amc,II⟩:∃ y_:List Int,y_=(CL++fQ):=⟨_,rfl⟩
   replace H:(some (Amc,0))=some (r1,r2):=by first|(rw [II];with_reducible exact H)|(have kP:=(bA _ _).symm.trans H;rw [II];with_reducible exact kP)|(have kP:=(bA _ _).symm.trans H;with_reducible exact kP)|with_reducible exact H|(rw [II];exact H)|exact H
   have Aek:=aa.mk II;clear II;simp only [Option.some.injEq,Prod.mk.injEq] at H
   obtain ⟨rfl,rfl⟩:=H
   go_enter Try.func108,Try.ntmps108
   go_wp2_with (first|((with_reducible refine aA (N:=1) rfl ?_);refine aC ?hg (N:=1) ?hd (cs:= #[.int .u16 aV,.int .u16 bh,.int .u16 bp,.slice qi fQ.length qj]) (t:=83) ?hr ?_;(case hd=>rfl);(case hg=>rfl);(case hr=>first|(go_simp;done)|(go_simp;rfl));intro qQ hg w6 bK hb;have aJ:=aa.mk (aq (bz HB) hb);have aQ:=aa.mk (bK);have bt:=aa.mk ((by rw [hg];exact (af (bz HB)):w.heap.size<=qQ));have cr:=aa.mk ((by rw [hg];exact (af (bz HB)):w.heap.size<=qQ));clear HB;have HB:=aJ;have kH:=aQ;have Aei:=bt;have Aej:=cr;clear aJ aQ bt cr;clear hb bK hg;have tW:w6.cell? ⟨qQ,0,none⟩=some (.int .u16 aV):=cz kH.out 0 rfl;have tX:w6.cell? ⟨qQ,1,none⟩=some (.int .u16 bh):=cz kH.out 1 rfl;have tY:w6.cell? ⟨qQ,2,none⟩=some (.int .u16 bp):=cz kH.out 2 rfl;have tZ:w6.cell? ⟨qQ,3,none⟩=some (.slice qi fQ.length qj):=cz kH.out 3 rfl;have ua:=ae kH.out 0;have uf:=ae kH.out 1;have ug:=ae kH.out 2;have uh:=ae kH.out 3)|((with_reducible refine aA (N:=37) rfl ?_);refine Kd.qq (Kd.int .u8) _ 5 ?hg (N:=37) ?hd (xs:=([(aV / 256) % 256,(aV) % 256,(bh / 256) % 256,(bh) % 256,((wrap64 (8+(fQ.length:Int))) / 256) % 256,(wrap64 (8+(fQ.length:Int))) % 256,(bp / 256) % 256,(bp) % 256]:List Int)) (inner:=[.int .u8 ((aV / 256) % 256),.int .u8 ((aV) % 256),.int .u8 ((bh / 256) % 256),.int .u8 ((bh) % 256),.int .u8 (((wrap64 (8+(fQ.length:Int))) / 256) % 256),.int .u8 ((wrap64 (8+(fQ.length:Int))) % 256),.int .u8 ((bp / 256) % 256),.int .u8 ((bp) % 256)]) (ok:=fun _=>True) (rq:=fun _=>True) ?hr ?hp (fun _ hk=>hk) trivial (Below.refl _ _) (Nat.le_refl _) (by simp) ?_;(case hd=>rfl);(case hg=>rfl);(case hr=>first|(go_simp;done)|(go_simp;simp only [IntKind.wrap_u8,IntKind.wrap_u16,IntKind.wrap_u32];done)|(go_simp;rfl));(case hp=>exact (cI.one (show Kd.M (Kd.int .u8) _ _ _ ((aV / 256) % 256) [.int .u8 ((aV / 256) % 256)] from rfl) (cI.one (show Kd.M (Kd.int .u8) _ _ _ ((aV) % 256) [.int .u8 ((aV) % 256)] from rfl) (cI.one (show Kd.M (Kd.int .u8) _ _ _ ((bh / 256) % 256) [.int .u8 ((bh / 256) % 256)] from rfl) (cI.one (show Kd.M (Kd.int .u8) _ _ _ ((bh) % 256) [.int .u8 ((bh) % 256)] from rfl) (cI.one (show Kd.M (Kd.int .u8) _ _ _ (((wrap64 (8+(fQ.length:Int))) / 256) % 256) [.int .u8 (((wrap64 (8+(fQ.length:Int))) / 256) % 256)] from rfl) (cI.one (show Kd.M (Kd.int .u8) _ _ _ ((wrap64 (8+(fQ.length:Int))) % 256) [.int .u8 ((wrap64 (8+(fQ.length:Int))) % 256)] from rfl) (cI.one (show Kd.M (Kd.int .u8) _ _ _ ((bp / 256) % 256) [.int .u8 ((bp / 256) % 256)] from rfl) (cI.one (show Kd.M (Kd.int .u8) _ _ _ ((bp) % 256) [.int .u8 ((bp) % 256)] from rfl) (cI.none _ _))))))))));intro Amd w8 xR hb gJ iM;clear gJ iM;(first|rw [<- WD.out] at xR|(simp only [Int.reduceToNat] at xR;rw [<- WD.out] at xR));have aJ:=aa.mk (Kd.bP xR (af (bz HB)));have aQ:=aa.mk (bn (kz kH) hb);have bt:=aa.mk (aq (bz HB) hb);clear kH;clear HB;have Qy:=aJ;have kH:=aQ;have HB:=bt;clear aJ aQ bt;clear hb xR;have rT:w8.cell? ⟨qQ,0,none⟩=some (.int .u16 aV):=cz kH.out 0 rfl;have rU:w8.cell? ⟨qQ,1,none⟩=some (.int .u16 bh):=cz kH.out 1 rfl;have rV:w8.cell? ⟨qQ,2,none⟩=some (.int .u16 bp):=cz kH.out 2 rfl;have rW:w8.cell? ⟨qQ,3,none⟩=some (.slice qi fQ.length qj):=cz kH.out 3 rfl;have rX:=ae kH.out 0;have rY:=ae kH.out 1;have rZ:=ae kH.out 2;have sg:=ae kH.out 3)|((with_reducible refine fo (b:= .append) (xs:= #[.tmp 37,.tmp 39]) rfl ?_);at_builtin;refine Kd.gC (Kd.int .u8) (w0:=w) w.heap.size rfl (.tmp 37) (.tmp 39) 23 5 (.int .u8 0) 1 rfl Try.underlying23 gB rfl (by decide) (by omega) Amd CL fQ _ _ _ (fun _=>True) (fun _=>False) rfl rfl ?aO ?aR (fun _ _ h=>h) (fun _ h=>h.elim) ?aF ?aB ?aS ?aL ?_;(case aR=>exact Kd.aU EN.out (bz HB));(case aB=>exact bz HB);(case aF=>exact (fun _ _=>trivial));(case aO=>exact (Kd.rz Qy));(case aS=>exact (af (bz HB)));(case aL=>have:=Z2.out;omega);intro As3 qf ho hb hg hat;rw [<- Aek.out] at ho;have aJ:=aa.mk (gV (kz kH) hg (Kd.nw Qy.out kH.out (by decide)));have aQ:=aa.mk (hb);have bt:=aa.mk (ho);clear kH;clear HB;clear Qy;have kH:=aJ;have HB:=aQ;have Ael:=bt;clear aJ aQ bt;clear ho hb hg hat))
   go_ret2
   exact ⟨_,by first|rfl|(simp [aj,ak]<;>rfl)|(simp [*,aj,ak]<;>rfl),by (with_reducible repeat (first|apply Kd.eX|apply Kd.eT|apply Kd.eY));exact Ael.out,bz HB⟩
  ·rw [ax c5] at H
   cases H
attribute [local go_sem] dF dG eG eH cQ cR dH dI
def kn.f (k:Nat) (a0:Int) (a1:Int) (a2:Int) (a3:Int):Option (Int):=(eB.f k (((a0 / 65536)+(Go.bits .and .u32 a0 65535)+(a1 / 65536)+(Go.bits .and .u32 a1 65535)+(a2)+(IntKind.u16.wrap (a3))) % 4294967296)).bind fun NS=>(some ((NS) % 4294967296))
theorem kn.calls (k:Nat) (a0:Int) (a1:Int) (a2:Int) (a3:Int) (r:Int) (w:World) (h:kn.f k a0 a1 a2 a3=some r):
  Calls Try.prog 121 #[.int .u32 a0,.int .u32 a1,.int .u8 a2,.int .i64 a3] w fun e w'=>e= .returned (.int .u32 r) /\ bF w w':=by
 have H:((eB.f k (((a0 / 65536)+(Go.bits .and .u32 a0 65535)+(a1 / 65536)+(Go.bits .and .u32 a1 65535)+(a2)+(IntKind.u16.wrap (a3))) % 4294967296)).bind fun NS=>(some ((NS) % 4294967296)))=some r:=h;clear h;replace H:=cZ H;obtain ⟨NS,CM,H⟩:=H;replace H:(some ((NS) % 4294967296))=some r:=H;have A5:=aa.mk CM;clear CM;obtain rfl:=cS H
 go_enter Try.func121,Try.ntmps121
 go_wp2_with (first|((with_reducible refine ay (f:=115) rfl ?_);refine gL 27 Try.func115 #[.int .u32 (((a0 / 65536)+(Go.bits .and .u32 a0 65535)+(a1 / 65536)+(Go.bits .and .u32 a1 65535)+(a2)+(IntKind.u16.wrap (a3))) % 4294967296)] ?_;(with_reducible refine (eB.calls k (((a0 / 65536)+(Go.bits .and .u32 a0 65535)+(a1 / 65536)+(Go.bits .and .u32 a1 65535)+(a2)+(IntKind.u16.wrap (a3))) % 4294967296) NS _ A5.out).mono ?_);rintro e w' ⟨rfl,⟨nd,rfl⟩⟩;refine ⟨_,rfl, ?_⟩))
 go_ret
 exact ⟨by first|rfl|(simp;done)|(simp [*];done),by repeat (first|exact bF.refl _|apply bF.step)⟩
def kM.f (k:Nat) (a0:Int) (a1:Int) (cT:Int) (cU:Int) (cY:Int) (fu:List Int):Option (Int×Bool):=(mw.f cT cU cY fu).bind fun CN=>((kn.f k a0 a1 17 (CN.1.length:Int)).bind fun En=>((gF.f k En CN.1).bind fun Bx=>((eB.f k Bx).bind fun Bz=>(some (Bz,(CN.2==0))))))
theorem kM.calls (k:Nat) (a0:Int) (a1:Int) (cT:Int) (cU:Int) (cY:Int) (iU:Option Addr) (iV:Nat) (fu:List Int) (r1:Int) (r2:Bool) (w:World) (sZ:Kd.C (Kd.int .u8) w iU fu.length fu) (tg:fu.length<=iV) (h:kM.f k a0 a1 cT cU cY fu=some (r1,r2)):
  Calls Try.prog 98 #[.int .u32 a0,.int .u32 a1,.agg #[.int .u16 cT,.int .u16 cU,.int .u16 cY,.slice iU fu.length iV]] w fun e w'=>e= .returned (.tuple #[.int .u16 r1,.bool r2]) /\ Below w.heap.size w w':=by
 have wB:=Try.underlying83;have sJ:=aa.mk sZ;have sK:=aa.mk tg;clear sZ tg;have HB:=gj w;have H:((mw.f cT cU cY fu).bind fun CN=>((kn.f k a0 a1 17 (CN.1.length:Int)).bind fun En=>((gF.f k En CN.1).bind fun Bx=>((eB.f k Bx).bind fun Bz=>(some (Bz,(CN.2==0)))))))=some (r1,r2):=h;clear h;replace H:=cZ H;obtain ⟨⟨IJ,Qz⟩,qA,H⟩:=H;replace H:((kn.f k a0 a1 17 (IJ.length:Int)).bind fun En=>((gF.f k En IJ).bind fun Bx=>((eB.f k Bx).bind fun Bz=>(some (Bz,(Qz==0))))))=some (r1,r2):=H;have A4:=aa.mk qA;clear qA;replace H:=cZ H;obtain ⟨En,CM,H⟩:=H
 replace H:((gF.f k En IJ).bind fun Bx=>((eB.f k Bx).bind fun Bz=>(some (Bz,(Qz==0)))))=some (r1,r2):=H;have A5:=aa.mk CM;clear CM;replace H:=cZ H;obtain ⟨Bx,wq,H⟩:=H;replace H:((eB.f k Bx).bind fun Bz=>(some (Bz,(Qz==0))))=some (r1,r2):=H;have A6:=aa.mk wq;clear wq;replace H:=cZ H;obtain ⟨Bz,Bc,H⟩:=H;replace H:(some (Bz,(Qz==0)))=some (r1,r2):=H;have A7:=aa.mk Bc;clear Bc;simp only [Option.some.injEq,Prod.mk.injEq] at H
 obtain ⟨rfl,rfl⟩:=H
 go_enter Try.func98,Try.ntmps98
 go_wp2_with (first|((with_reducible refine aA (N:=5) rfl ?_);refine aC ?hg (N:=5) ?hd (cs:= #[.int .u16 cT,.int .u16 cU,.int .u16 cY,.slice iU fu.length iV]) (t:=83) ?hr ?_;(case hd=>rfl);(case hg=>rfl);(case hr=>first|(go_simp;done)|(go_simp;rfl));intro EO hg w8 bK hb;have aJ:=aa.mk (aq (bz HB) hb);have aQ:=aa.mk (bK);have bt:=aa.mk ((by rw [hg];exact (af (bz HB)):w.heap.size<=EO));have cr:=aa.mk ((by rw [hg];exact (af (bz HB)):w.heap.size<=EO));clear HB;have HB:=aJ;have tj:=aQ;have Ap1:=bt;have Ap2:=cr;clear aJ aQ bt cr;clear hb bK hg;have CO:w8.cell? ⟨EO,0,none⟩=some (.int .u16 cT):=cz tj.out 0 rfl;have CP:w8.cell? ⟨EO,1,none⟩=some (.int .u16 cU):=cz tj.out 1 rfl;have CQ:w8.cell? ⟨EO,2,none⟩=some (.int .u16 cY):=cz tj.out 2 rfl;have CR:w8.cell? ⟨EO,3,none⟩=some (.slice iU fu.length iV):=cz tj.out 3 rfl;have CS:=ae tj.out 0;have CT:=ae tj.out 1;have CU:=ae tj.out 2;have CV:=ae tj.out 3)|((with_reducible refine ay (f:=108) rfl ?_);refine gL 12 Try.func108 #[.agg #[.int .u16 cT,.int .u16 cU,.int .u16 cY,.slice iU fu.length iV]] ?_;(with_reducible refine (mw.calls cT cU cY _ _ fu IJ Qz _ ?aG ?aH A4.out).mono ?_);(case aG=>exact Kd.aU sJ.out (bz HB));(case aH=>exact sK.out);rintro e j4 ⟨As4,rfl,gE,hb⟩;refine ⟨_,rfl, ?_⟩;have aJ:=aa.mk (Kd.bP gE (af (bz HB)));have aQ:=aa.mk (bn (kz tj) hb);have bt:=aa.mk (aq (bz HB) hb);clear tj;clear HB;have EP:=aJ;have tj:=aQ;have HB:=bt;clear aJ aQ bt;(try clear hb);(try clear hb2);(try clear hk);(try clear hi);(try clear gE);obtain ⟨Z3,Z4,Z5⟩:=Kd.da EP.out;subst Z5)|((with_reducible refine ay (f:=121) rfl ?_);refine gL 19 Try.func121 #[.int .u32 a0,.int .u32 a1,.int .u8 17,.int .i64 (IJ.length:Int)] ?_;(with_reducible refine (kn.calls k a0 a1 17 (IJ.length:Int) En _ A5.out).mono ?_);rintro e w' ⟨rfl,⟨nd,rfl⟩⟩;refine ⟨_,rfl, ?_⟩)|((with_reducible refine ay (f:=116) rfl ?_);refine gL 21 Try.func116 #[.int .u32 En,.slice Z3 IJ.length Z4] ?_;(with_reducible refine (gF.calls k En _ _ IJ Bx _ ?aG ?aH A6.out).mono ?_);(case aG=>repeat (first|exact (Kd.av EP.out).2.2|(with_reducible refine Kd.fD ?_ _)|(with_reducible refine Kd.fj ?_ _)|(with_reducible refine Kd.gP ?_)));(case aH=>exact (Kd.av EP.out).2.1);rintro e l5 ⟨rfl,hb⟩;refine ⟨_,rfl, ?_⟩;have aJ:=aa.mk (Kd.fU (Kd.rz EP) hb);have aQ:=aa.mk (bn (kz tj) hb);have bt:=aa.mk (aq (bz HB) hb);clear EP;clear tj;clear HB;have EP:=aJ;have tj:=aQ;have HB:=bt;clear aJ aQ bt;(try clear hb);(try clear hb2);(try clear hk);(try clear hi))|((with_reducible refine ay (f:=115) rfl ?_);refine gL 22 Try.func115 #[.int .u32 Bx] ?_;(with_reducible refine (eB.calls k Bx Bz _ A7.out).mono ?_);rintro e w' ⟨rfl,⟨nd,rfl⟩⟩;refine ⟨_,rfl, ?_⟩))
 go_ret2
 exact ⟨by first|rfl|(simp [aj,ak]<;>rfl)|(simp [*,aj,ak]<;>rfl),bz HB⟩
attribute [local go_sem] dF dG eG eH cQ cR dH dI
def o8.f (k:Nat) (a0:Int) (a1:Int) (cT:Int) (cU:Int) (cY:Int) (fu:List Int):Option (Bool):=if cY=0 then (some true) else ((kM.f k a0 a1 cT cU cY fu).bind fun IK=>(if IK.2=true then (some (IK.1==65535)) else (some false)))
theorem o8.calls (k:Nat) (a0:Int) (a1:Int) (cT:Int) (cU:Int) (cY:Int) (iU:Option Addr) (iV:Nat) (fu:List Int) (r:Bool) (w:World) (sZ:Kd.C (Kd.int .u8) w iU fu.length fu) (tg:fu.length<=iV) (h:o8.f k a0 a1 cT cU cY fu=some r):
  Calls Try.prog 59 #[.int .u32 a0,.int .u32 a1,.agg #[.int .u16 cT,.int .u16 cU,.int .u16 cY,.slice iU fu.length iV]] w fun e w'=>e= .returned (.bool r) /\ Below w.heap.size w w':=by
 have wB:=Try.underlying83;have sJ:=aa.mk sZ;have sK:=aa.mk tg;clear sZ tg;have HB:=gj w;have H:(if cY=0 then (some true) else ((kM.f k a0 a1 cT cU cY fu).bind fun IK=>(if IK.2=true then (some (IK.1==65535)) else (some false))))=some r:=h;clear h
 by_cases c4:cY=0
 ·rw [au c4] at H
  have mH:(cY==0)=true:=fH c4;have xQ:(cY !=0)=false:=kO c4;clear c4;obtain rfl:=cS H
  go_enter Try.func59,Try.ntmps59
  go_wp2_with (first|((with_reducible refine aA (N:=5) rfl ?_);refine aC ?hg (N:=5) ?hd (cs:= #[.int .u16 cT,.int .u16 cU,.int .u16 cY,.slice iU fu.length iV]) (t:=83) ?hr ?_;(case hd=>rfl);(case hg=>rfl);(case hr=>first|(go_simp;done)|(go_simp;rfl));intro o9 hg w5 bK hb;have aJ:=aa.mk (aq (bz HB) hb);have aQ:=aa.mk (bK);have bt:=aa.mk ((by rw [hg];exact (af (bz HB)):w.heap.size<=o9));have cr:=aa.mk ((by rw [hg];exact (af (bz HB)):w.heap.size<=o9));clear HB;have HB:=aJ;have kI:=aQ;have WE:=bt;have WG:=cr;clear aJ aQ bt cr;clear hb bK hg;have FR:w5.cell? ⟨o9,0,none⟩=some (.int .u16 cT):=cz kI.out 0 rfl;have FT:w5.cell? ⟨o9,1,none⟩=some (.int .u16 cU):=cz kI.out 1 rfl;have FU:w5.cell? ⟨o9,2,none⟩=some (.int .u16 cY):=cz kI.out 2 rfl;have FV:w5.cell? ⟨o9,3,none⟩=some (.slice iU fu.length iV):=cz kI.out 3 rfl;have FW:=ae kI.out 0;have FX:=ae kI.out 1;have FY:=ae kI.out 2;have FZ:=ae kI.out 3))
  go_ret
  exact ⟨by first|rfl|(simp [aj,ak]<;>rfl)|(simp [*,aj,ak]<;>rfl),bz HB⟩
 ·rw [ax c4] at H
  have mH:(cY==0)=false:=fc c4;have xQ:(cY !=0)=true:=lA c4;replace H:=cZ H;obtain ⟨⟨Ua,Aem⟩,Bc,H⟩:=H;replace H:(if Aem=true then (some (Ua==65535)) else (some false))=some r:=H;have A7:=aa.mk Bc;clear Bc
  by_cases c8:Aem=true
  ·subst c8
   have H1:(some (Ua==65535))=some r:=by rw [au rfl] at H;exact H
   clear H;have H:=H1;clear H1;obtain rfl:=cS H
   go_enter Try.func59,Try.ntmps59
   go_wp2_with (first|((with_reducible refine aA (N:=5) rfl ?_);refine aC ?hg (N:=5) ?hd (cs:= #[.int .u16 cT,.int .u16 cU,.int .u16 cY,.slice iU fu.length iV]) (t:=83) ?hr ?_;(case hd=>rfl);(case hg=>rfl);(case hr=>first|(go_simp;done)|(go_simp;rfl));intro o9 hg w9 bK hb;have aJ:=aa.mk (aq (bz HB) hb);have aQ:=aa.mk (bK);have bt:=aa.mk ((by rw [hg];exact (af (bz HB)):w.heap.size<=o9));have cr:=aa.mk ((by rw [hg];exact (af (bz HB)):w.heap.size<=o9));clear HB;have HB:=aJ;have kI:=aQ;have WE:=bt;have WG:=cr;clear aJ aQ bt cr;clear hb bK hg;have rT:w9.cell? ⟨o9,0,none⟩=some (.int .u16 cT):=cz kI.out 0 rfl;have rU:w9.cell? ⟨o9,1,none⟩=some (.int .u16 cU):=cz kI.out 1 rfl;have rV:w9.cell? ⟨o9,2,none⟩=some (.int .u16 cY):=cz kI.out 2 rfl;have rW:w9.cell? ⟨o9,3,none⟩=some (.slice iU fu.length iV):=cz kI.out 3 rfl;have rX:=ae kI.out 0;have rY:=ae kI.out 1;have rZ:=ae kI.out 2;have sg:=ae kI.out 3)|((with_reducible refine ay (f:=98) rfl ?_);refine gL 16 Try.func98 #[.int .u32 a0,.int .u32 a1,.agg #[.int .u16 cT,.int .u16 cU,.int .u16 cY,.slice iU fu.length iV]] ?_;(with_reducible refine (kM.calls k a0 a1 cT cU cY _ _ fu Ua true _ ?aG ?aH A7.out).mono ?_);(case aG=>exact Kd.aU sJ.out (bz HB));(case aH=>exact sK.out);rintro e qf ⟨rfl,hb⟩;refine ⟨_,rfl, ?_⟩;have aJ:=aa.mk (bn (kz kI) hb);have aQ:=aa.mk (aq (bz HB) hb);clear kI;clear HB;have kI:=aJ;have HB:=aQ;clear aJ aQ;(try clear hb);(try clear hb2);(try clear hk);(try clear hi)))
   go_ret
   exact ⟨by first|rfl|(simp [aj,ak]<;>rfl)|(simp [*,aj,ak]<;>rfl),bz HB⟩
  ·replace c8:=xP c8
   subst c8;have H1:(some false)=some r:=by rw [ax (show ¬ (false=true) by decide)] at H;exact H
   clear H;have H:=H1;clear H1;obtain rfl:=cS H
   go_enter Try.func59,Try.ntmps59
   go_wp2_with (first|((with_reducible refine aA (N:=5) rfl ?_);refine aC ?hg (N:=5) ?hd (cs:= #[.int .u16 cT,.int .u16 cU,.int .u16 cY,.slice iU fu.length iV]) (t:=83) ?hr ?_;(case hd=>rfl);(case hg=>rfl);(case hr=>first|(go_simp;done)|(go_simp;rfl));intro o9 hg l5 bK hb;have aJ:=aa.mk (aq (bz HB) hb);have aQ:=aa.mk (bK);have bt:=aa.mk ((by rw [hg];exact (af (bz HB)):w.heap.size<=o9));have cr:=aa.mk ((by rw [hg];exact (af (bz HB)):w.heap.size<=o9));clear HB;have HB:=aJ;have kI:=aQ;have WE:=bt;have WG:=cr;clear aJ aQ bt cr;clear hb bK hg;have F2:l5.cell? ⟨o9,0,none⟩=some (.int .u16 cT):=cz kI.out 0 rfl;have F3:l5.cell? ⟨o9,1,none⟩=some (.int .u16 cU):=cz kI.out 1 rfl;have F4:l5.cell? ⟨o9,2,none⟩=some (.int .u16 cY):=cz kI.out 2 rfl;have F5:l5.cell? ⟨o9,3,none⟩=some (.slice iU fu.length iV):=cz kI.out 3 rfl;have F6:=ae kI.out 0;have F7:=ae kI.out 1;have F8:=ae kI.out 2;have F9:=ae kI.out 3)|((with_reducible refine ay (f:=98) rfl ?_);refine gL 16 Try.func98 #[.int .u32 a0,.int .u32 a1,.agg #[.int .u16 cT,.int .u16 cU,.int .u16 cY,.slice iU fu.length iV]] ?_;(with_reducible refine (kM.calls k a0 a1 cT cU cY _ _ fu Ua false _ ?aG ?aH A7.out).mono ?_);(case aG=>exact Kd.aU sJ.out (bz HB));(case aH=>exact sK.out);rintro e qN ⟨rfl,hb⟩;refine ⟨_,rfl, ?_⟩;have aJ:=aa.mk (bn (kz kI) hb);have aQ:=aa.mk (aq (bz HB) hb);clear kI;clear HB;have kI:=aJ;have HB:=aQ;clear aJ aQ;(try clear hb);(try clear hb2);(try clear hk);(try clear hi)))
   go_ret
   exact ⟨by first|rfl|(simp [aj,ak]<;>rfl)|(simp [*,aj,ak]<;>rfl),bz HB⟩
attribute [local go_sem] dF dG eG eH cQ cR dH dI
def ku.f (k:Nat) (aV:Int) (bh:Int) (bp:Int) (fQ:List Int) (xU:Int) (xV:Int) (xW:Int) (xX:Int) (xY:Int) (xZ:Int) (sj:Int) (sn:Int) (rG:List Int) (rH:List Int):Option (Bool):=(o8.f k sj sn aV bh bp fQ).bind fun NT=>(some NT)
theorem ku.calls (k:Nat) (aV:Int) (bh:Int) (bp:Int) (qi:Option Addr) (qj:Nat) (fQ:List Int) (xU:Int) (xV:Int) (xW:Int) (xX:Int) (xY:Int) (xZ:Int) (sj:Int) (sn:Int) (Al:Option Addr) (Ap:Nat) (rG:List Int) (Ar:Option Addr) (Au:Nat) (rH:List Int) (r:Bool) (w:World) (wV:Kd.C (Kd.int .u8) w qi fQ.length fQ) (wW:fQ.length<=qj) (Bd:Kd.C (Kd.int .u8) w Al rG.length rG) (Be:rG.length<=Ap) (Bf:Kd.C (Kd.int .u8) w Ar rH.length rH) (Bg:rH.length<=Au) (h:ku.f k aV bh bp fQ xU xV xW xX xY xZ sj sn rG rH=some r):
  Calls Try.prog 156 #[.agg #[.int .u16 aV,.int .u16 bh,.int .u16 bp,.slice qi fQ.length qj],.agg #[.int .u8 xU,.int .u8 xV,.int .u8 xW,.int .u16 xX,.int .u8 xY,.int .u16 xZ,.int .u32 sj,.int .u32 sn,.slice Al rG.length Ap,.slice Ar rH.length Au]] w fun e w'=>e= .returned (.bool r) /\ Below w.heap.size w w':=by
 have CW:=Try.underlying179;have jb:=Try.underlying73;have wB:=Try.underlying83;have EN:=aa.mk wV;have Mx:=aa.mk wW;clear wV wW;have WH:=aa.mk Bd;have WI:=aa.mk Be;clear Bd Be;have WJ:=aa.mk Bf;have WK:=aa.mk Bg;clear Bf Bg;have HB:=gj w;have H:((o8.f k sj sn aV bh bp fQ).bind fun NT=>(some NT))=some r:=h;clear h;replace H:=cZ H;obtain ⟨NT,wE,H⟩:=H;replace H:(some NT)=some r:=H;have A3:=aa.mk wE;clear wE;obtain rfl:=cS H
 go_enter Try.func156,Try.ntmps156
 go_wp2_with (first|((with_reducible refine aA (N:=2) rfl ?_);refine aC ?hg (N:=2) ?hd (cs:= #[.int .u16 aV,.int .u16 bh,.int .u16 bp,.slice qi fQ.length qj]) (t:=179) ?hr ?_;(case hd=>rfl);(case hg=>rfl);(case hr=>first|(go_simp;done)|(go_simp;rfl));intro yu hg w4 bK hb;have aJ:=aa.mk (aq (bz HB) hb);have aQ:=aa.mk (bK);have bt:=aa.mk ((by rw [hg];exact (af (bz HB)):w.heap.size<=yu));have cr:=aa.mk ((by rw [hg];exact (af (bz HB)):w.heap.size<=yu));clear HB;have HB:=aJ;have rN:=aQ;have Ap3:=bt;have Ap4:=cr;clear aJ aQ bt cr;clear hb bK hg)|((with_reducible refine aA (N:=3) rfl ?_);refine aC ?hg (N:=3) ?hd (cs:= #[.int .u8 xU,.int .u8 xV,.int .u8 xW,.int .u16 xX,.int .u8 xY,.int .u16 xZ,.int .u32 sj,.int .u32 sn,.slice Al rG.length Ap,.slice Ar rH.length Au]) (t:=73) ?hr ?_;(case hd=>rfl);(case hg=>rfl);(case hr=>first|(go_simp;done)|(go_simp;rfl));intro tr hg w5 bK hb;have aJ:=aa.mk (bn (kz rN) hb);have aQ:=aa.mk (aq (bz HB) hb);have bt:=aa.mk (bK);have cr:=aa.mk ((by rw [hg];exact (af (bz HB)):w.heap.size<=tr));have uz:=aa.mk ((by rw [hg];exact (af (bz HB)):w.heap.size<=tr));have yw:=aa.mk ((by rw [hg];exact Nat.ne_of_lt (mm (g:=yu) (o:= .cells #[.int .u16 aV,.int .u16 bh,.int .u16 bp,.slice qi fQ.length qj] 179 (0,0)) (kz rN)):yu≠tr));have Bh:=aa.mk ((by rw [hg];exact Nat.ne_of_gt (mm (g:=yu) (o:= .cells #[.int .u16 aV,.int .u16 bh,.int .u16 bp,.slice qi fQ.length qj] 179 (0,0)) (kz rN)):tr≠yu));clear rN;clear HB;have rN:=aJ;have HB:=aQ;have nD:=bt;have Ap5:=cr;have Ap6:=uz;have NU:=yw;have NV:=Bh;clear aJ aQ bt cr uz yw Bh;clear hb bK hg;have Aen:=NV.out;have Aeo:=NU.out;have tW:w5.cell? ⟨tr,0,none⟩=some (.int .u8 xU):=cz nD.out 0 rfl;have tX:w5.cell? ⟨tr,1,none⟩=some (.int .u8 xV):=cz nD.out 1 rfl;have tY:w5.cell? ⟨tr,2,none⟩=some (.int .u8 xW):=cz nD.out 2 rfl;have tZ:w5.cell? ⟨tr,3,none⟩=some (.int .u16 xX):=cz nD.out 3 rfl;have uX:w5.cell? ⟨tr,4,none⟩=some (.int .u8 xY):=cz nD.out 4 rfl;have KQ:w5.cell? ⟨tr,5,none⟩=some (.int .u16 xZ):=cz nD.out 5 rfl;have KR:w5.cell? ⟨tr,6,none⟩=some (.int .u32 sj):=cz nD.out 6 rfl;have KS:w5.cell? ⟨tr,7,none⟩=some (.int .u32 sn):=cz nD.out 7 rfl;have KT:w5.cell? ⟨tr,8,none⟩=some (.slice Al rG.length Ap):=cz nD.out 8 rfl;have KU:w5.cell? ⟨tr,9,none⟩=some (.slice Ar rH.length Au):=cz nD.out 9 rfl;have ua:=ae nD.out 0;have uf:=ae nD.out 1;have ug:=ae nD.out 2;have uh:=ae nD.out 3;have uY:=ae nD.out 4;have KV:=ae nD.out 5;have KW:=ae nD.out 6;have KX:=ae nD.out 7;have KY:=ae nD.out 8;have KZ:=ae nD.out 9;have Ga:w5.cell? ⟨yu,0,none⟩=some (.int .u16 aV):=cz rN.out 0 rfl;have Gb:w5.cell? ⟨yu,1,none⟩=some (.int .u16 bh):=cz rN.out 1 rfl;have Gc:w5.cell? ⟨yu,2,none⟩=some (.int .u16 bp):=cz rN.out 2 rfl;have Gd:w5.cell? ⟨yu,3,none⟩=some (.slice qi fQ.length qj):=cz rN.out 3 rfl;have Ge:=ae rN.out 0;have Gf:=ae rN.out 1;have Gg:=ae rN.out 2;have Gh:=ae rN.out 3)|((with_reducible refine ay (f:=59) rfl ?_);refine gL 11 Try.func59 #[.int .u32 sj,.int .u32 sn,.agg #[.int .u16 aV,.int .u16 bh,.int .u16 bp,.slice qi fQ.length qj]] ?_;(with_reducible refine (o8.calls k sj sn aV bh bp _ _ fQ NT _ ?aG ?aH A3.out).mono ?_);(case aG=>exact Kd.aU EN.out (bz HB));(case aH=>exact Mx.out);rintro e w9 ⟨rfl,hb⟩;refine ⟨_,rfl, ?_⟩;have aJ:=aa.mk (bn (kz rN) hb);have aQ:=aa.mk (bn (kz nD) hb);have bt:=aa.mk (aq (bz HB) hb);clear rN;clear nD;clear HB;have rN:=aJ;have nD:=aQ;have HB:=bt;clear aJ aQ bt;(try clear hb);(try clear hb2);(try clear hk);(try clear hi)))
 go_ret
 exact ⟨by first|rfl|(simp [aj,ak]<;>rfl)|(simp [*,aj,ak]<;>rfl),bz HB⟩
attribute [local go_sem] dF dG eG eH cQ cR dH dI
def gM.f (l0:List Int) (a1:Int):Option (List Int):=if 0<=a1 then (if a1<70368744177664 then some [] else none) else none
theorem gM.calls (A0:Option Addr) (c0:Nat) (l0:List Int) (a1:Int) (r:List Int) (w:World) (hr0:Kd.C (Kd.int .u8) w A0 l0.length l0) (hc0:l0.length<=c0) (h:gM.f l0 a1=some r) (hA:A0=none /\ c0=0:=by exact ⟨rfl,rfl⟩):
    Calls Try.prog 132 #[.slice A0 l0.length c0,.int .i64 a1] w fun e w'=>∃ o6:Value,e= .returned (o6) /\ Kd.R (Kd.int .u8) 5 w' w.heap.size (fun _=>True) o6 r /\ Below w.heap.size w w':=by
  unfold gM.f at h
  obtain ⟨rfl,rfl⟩:=hA;have hl:l0=[]:=List.length_eq_zero_iff.1 (Nat.le_zero.1 hc0);subst hl
  by_cases c1:0<=a1
  · rw [au c1] at h
    by_cases c2:a1<70368744177664
    · rw [au c2] at h
      obtain rfl:=cS h;clear h hr0 hc0;have n1:decide (a1<0)=false:=gO (by omega);have n2:wrap64 (a1 - wrap64 (0 - 0))=a1:=by unfold wrap64;omega
      have HB:=gj w
      by_cases c3:0<a1
      · have n3:decide (0<a1)=true:=bS c3
        obtain ⟨i0,NG,_,_,_⟩:=info_parts gB;have hN:=Kd.cl (Kd.int .u8) 5 w w.heap.size (fun _=>True);have WL:=Kt (P:=Try.prog) 23 5 .i64 Try.underlying23 NG none 0 0 0 (Int.le_refl _) (Int.le_refl _) (Nat.le_refl _);replace WL:∀ W:World,(Instr.slice 23 (.slice none 0 0) none (some (.int .i64 0)) none).run Try.prog W= .ok (.slice none 0 0) W:=WL
        go_enter Try.func132,Try.ntmps132
        go_wp2_with (first
         |((with_reducible refine fo (b:= .append) (xs:= #[.tmp 20,.tmp 21]) rfl ?_);at_builtin;refine Kd.Cx (Kd.int .u8) (w0:=w) w.heap.size rfl (.tmp 20) (.tmp 21) 23 3 5 (.int .u8 0) 1 rfl Try.underlying23 Try.underlying3 gB rfl (by decide) (by decide) (.slice none 0 0) ([]:List Int) 0 a1 (fun _=>True) rfl rfl rfl (fun _ _=>trivial) ?aO c1 ?aB (af ?aB) ?aL ?_;(case aO=>first|exact hN|exact Kd.eY hN|exact Kd.eT hN _);(case aB=>first|exact Below.refl _ _|exact bf (Below.refl _ _));(case aL=>simp;omega);intro v2 w2 ho hb hg hat;clear hg hat;obtain ⟨A2,c2_,e2,hlc,_⟩:=Kd.bW ho;subst e2;have YL:=aa.mk hb;have Wb:=aa.mk ho;clear ho;have Ml:=Kt (P:=Try.prog) 23 5 .i64 Try.underlying23 NG A2 (([]:List Int)++List.replicate a1.toNat 0).length c2_ 0 (Int.le_refl _) (by omega) hlc;clear hlc;clear hb))
        go_ret
        exact ⟨_,rfl,Kd.Yw (m:=0) Wb.out (Nat.zero_le _),YL.out⟩
      · have n3:decide (0<a1)=false:=gO c3
        go_enter Try.func132,Try.ntmps132
        go_wp2
        go_ret
        exact ⟨_,rfl,Kd.cl _ _ _ _ _,Below.refl _ _⟩
    · rw [ax c2] at h
      cases h
  · rw [ax c1] at h
    cases h
mutual
def aZ.l0:Nat ->List (List Int) ->Int ->List (List Int) ->Int ->Int ->Option (List Int)
  |0,_,_,_,_,_=>none
  |k+1,x0,x3,x9,BR,FP=>if FP<BR then (if 0<=FP then (if FP<(x9.length:Int) then (if (wrap64 (x3+((qO x9 FP).length:Int)))<0 then (none) else (aZ.l0 k x0 (wrap64 (x3+((qO x9 FP).length:Int))) x9 BR (wrap64 (FP+1)))) else (none)) else (none)) else ((gM.f ([]:List Int) x3).bind fun QA=>(aZ.l1 k QA x0 (x0.length:Int) 0))
def aZ.l1:Nat ->List Int ->List (List Int) ->Int ->Int ->Option (List Int)
  |0,_,_,_,_=>none
  |k+1,x6,Pb,Ub,Gi=>if Gi<Ub then (if 0<=Gi then (if Gi<(Pb.length:Int) then (if x6.length+(qO Pb Gi).length<140737488355328 then (aZ.l1 k (x6++(qO Pb Gi)) Pb Ub (wrap64 (Gi+1))) else (none)) else (none)) else (none)) else (some x6)
end
def aZ.f (k:Nat) (l0:List (List Int)):Option (List Int):=aZ.l0 k l0 0 l0 (l0.length:Int) 0
theorem aZ.calls (k:Nat) (A0:Option Addr) (c0:Nat) (l0:List (List Int)) (r:List Int) (w:World) (hr0:Kd.C (Kd.slice 5 (Kd.int .u8)) w A0 l0.length l0) (hc0:l0.length<=c0) (h:aZ.f k l0=some r):
    Calls Try.prog 127 #[.slice A0 l0.length c0] w fun e w'=>∃ o6:Value,e= .returned (o6) /\ Kd.R (Kd.int .u8) 5 w' w.heap.size (fun _=>True) o6 r /\ Below w.heap.size w w':=by
  have gh:=aa.mk hr0;have jC:=aa.mk hc0;clear hr0 hc0;have HB:=gj w;have H:(aZ.l0 k l0 0 l0 (l0.length:Int) 0)=some r:=h;clear h;have H':=aa.mk H;clear H
  go_enter Try.func127,Try.ntmps127
  go_wp2
  go_loopg [3,11] k (fun kq v3 v11 w'=>∃ (nC:Int) (qR:Int),v3= .int .i64 nC /\ v11= .int .i64 qR /\ aa (aZ.l0 kq l0 nC l0 (l0.length:Int) qR=some r) /\ aa (kq<=k) /\ aa (Below w.heap.size w w'))
  case atStart=>exact ⟨(0),(0),(by first|rfl|(simp;done)|(simp [*];done)),(by first|rfl|(simp;done)|(simp [*];done)),H',⟨Nat.le_refl _⟩,⟨bz HB⟩⟩
  case round=>
    clear H';obtain ⟨nC,qR,rfl,rfl,HA,z4,HB⟩:=hrel
    cases gk with
    |zero=>exact absurd HA.out (by simp [aZ.l0])
    |succ k1=>
      have H:=HA.out;clear HA;simp only [aZ.l0] at H
      by_cases c2:qR<(l0.length:Int)
      · rw [au c2] at H
        have kg:decide (qR<(l0.length:Int))=true:=bS c2;clear c2
        by_cases c3:0<=qR
        · rw [au c3] at H
          have oY:decide (0<=qR)=true:=bS c3;clear c3
          by_cases c4:qR<(l0.length:Int)
          · rw [au c4] at H
            have mH:decide (qR<(l0.length:Int))=true:=bS c4;clear c4
            by_cases c5:(wrap64 (nC+((qO l0 qR).length:Int)))<0
            · rw [au c5] at H
              cases H
            · rw [ax c5] at H
              have mS:decide ((wrap64 (nC+((qO l0 qR).length:Int)))<0)=false:=gO c5;clear c5;have H':=aa.mk H;clear H;have Z6:0<=(qR:Int):=gD;have Z7:qR<(l0.length:Int):=gD;obtain ⟨Ap7,Ame,Amf,Amg,Gj,My,Mz⟩:=Wa gh.out qR Z6 Z7
              cases Amg
              replace Gj:=(HB.out.cell (dA w _ Gj)).trans Gj;have AhW:=aa.mk Mz;have AhX:=aa.mk My;clear Mz My;replace Z6:=eq_true Z6;replace Z7:=eq_true Z7
              go_wp2
              go_roundg k1
              case measure=>have:=z4.out;omega
              case rel=>exact ⟨(wrap64 (nC+((qO l0 qR).length:Int))),(wrap64 (qR+1)),(by first|rfl|(simp;done)|(simp [*];done)),(by first|rfl|(simp;done)|(simp [*];done)),H',⟨by have:=z4.out;omega⟩,⟨bz HB⟩⟩
          · rw [ax c4] at H
            cases H
        · rw [ax c3] at H
          cases H
      · rw [ax c2] at H
        have kg:decide (qR<(l0.length:Int))=false:=gO c2;clear c2;replace H:=cZ H;obtain ⟨QA,wq,H⟩:=H;replace H:(aZ.l1 k1 QA l0 (l0.length:Int) 0)=some r:=H;have A6:=aa.mk wq;clear wq;have H':=aa.mk H;clear H
        go_wp2_with (first|(go_at_call 132;(with_reducible show Calls _ _ #[.slice none 0 0,_] _ _);(refine (gM.calls _ _ ([]:List Int) nC QA _ ?aG ?aH A6.out).mono ?_);(case aG=>exact Kd.Cs _ _);(case aH=>exact Nat.le_refl _);rintro e w7 ⟨As6,rfl,gE,hb⟩;have aJ:=aa.mk (Kd.bP gE (af (bz HB)));have aQ:=aa.mk (aq (bz HB) hb);clear HB;have Aep:=aJ;have HB:=aQ;clear aJ aQ;(try clear hb);(try clear hb2);(try clear hk);(try clear hi);(try clear gE)))
        go_loopg [6,27] k1 (fun kq v6 v27 w'=>∃ (NW:List Int) (qt:Int),v27= .int .i64 qt /\ aa (aZ.l1 kq NW l0 (l0.length:Int) qt=some r) /\ aa (kq<=k1) /\ aa (Kd.R (Kd.int .u8) 5 w' w.heap.size (fun _=>True) v6 NW) /\ aa (Below w.heap.size w w'))
        case atStart=>exact ⟨(QA),(0),(by first|rfl|(simp;done)|(simp [*];done)),H',⟨Nat.le_refl _⟩,⟨Kd.rz Aep⟩,⟨bz HB⟩⟩
        case round=>
          clear H'
          try clear c2
          try clear kg
          obtain ⟨NW,qt,rfl,HA,WM,CX,HB⟩:=hrel
          cases gk with
          |zero=>exact absurd HA.out (by simp [aZ.l1])
          |succ k2=>
            have H:=HA.out;clear HA;simp only [aZ.l1] at H
            by_cases c8:qt<(l0.length:Int)
            · rw [au c8] at H
              have nX:decide (qt<(l0.length:Int))=true:=bS c8;clear c8
              by_cases c9:0<=qt
              · rw [au c9] at H
                have wT:decide (0<=qt)=true:=bS c9;clear c9
                by_cases Ba:qt<(l0.length:Int)
                · rw [au Ba] at H
                  have uw:decide (qt<(l0.length:Int))=true:=bS Ba;clear Ba
                  by_cases ru:NW.length+(qO l0 qt).length<140737488355328
                  · rw [au ru] at H
                    have Qb:=aa.mk ru;clear ru;obtain ⟨Aeq,IL⟩:∃ y_:List Int,y_=(NW++(qO l0 qt)):=⟨_,rfl⟩
                    replace H:(aZ.l1 k2 Aeq l0 (l0.length:Int) (wrap64 (qt+1)))=some r:=by first|(rw [IL];with_reducible exact H)|(have kP:=(bA _ _).symm.trans H;rw [IL];with_reducible exact kP)|(have kP:=(bA _ _).symm.trans H;with_reducible exact kP)|with_reducible exact H|(rw [IL];exact H)|exact H
                    have Aer:=aa.mk IL;clear IL;have H':=aa.mk H;clear H;have Z8:0<=(qt:Int):=gD;have Z9:qt<(l0.length:Int):=gD;obtain ⟨Ap8,Ami,Amj,Amk,Gk,MA,MB⟩:=Wa gh.out qt Z8 Z9
                    cases Amk
                    replace Gk:=(HB.out.cell (dA w _ Gk)).trans Gk;have Uc:=aa.mk MB;have AhY:=aa.mk MA;clear MB MA;replace Z8:=eq_true Z8;replace Z9:=eq_true Z9
                    go_wp2_with (first|((with_reducible refine fo (b:= .append) (xs:= #[.tmp 31,.tmp 32]) rfl ?_);at_builtin;refine Kd.gC (Kd.int .u8) (w0:=w) w.heap.size rfl (.tmp 31) (.tmp 32) 23 5 (.int .u8 0) 1 rfl Try.underlying23 gB rfl (by decide) (by omega) u6 NW (qO l0 qt) _ _ _ (fun _=>True) (fun _=>False) rfl rfl ?aO ?aR (fun _ _ h=>h) (fun _ h=>h.elim) ?aF ?aB ?aS ?aL ?_;(case aR=>exact Kd.aU Uc.out (bz HB));(case aB=>exact bz HB);(case aF=>exact (fun _ _=>trivial));(case aO=>exact (Kd.rz CX));(case aS=>exact (af (bz HB)));(case aL=>have:=Qb.out;omega);intro As7 l5 ho hb hg hat;rw [<- Aer.out] at ho;have aJ:=aa.mk (hb);have aQ:=aa.mk (ho);clear HB;clear CX;have HB:=aJ;have Aes:=aQ;clear aJ aQ;clear ho hb hg hat))
                    go_roundg k2
                    case measure=>have:=z4.out;have:=WM.out;omega
                    case rel=>exact ⟨(Aeq),(wrap64 (qt+1)),(by first|rfl|(simp;done)|(simp [*];done)),H',⟨by have:=z4.out;have:=WM.out;omega⟩,⟨Kd.rz Aes⟩,⟨bz HB⟩⟩
                  · rw [ax ru] at H
                    cases H
                · rw [ax Ba] at H
                  cases H
              · rw [ax c9] at H
                cases H
            · rw [ax c8] at H
              have nX:decide (qt<(l0.length:Int))=false:=gO c8;clear c8;obtain rfl:=cS H
              go_wp2
              go_ret
              exact ⟨_,by first|rfl|(simp [aj,ak]<;>rfl)|(simp [*,aj,ak]<;>rfl),by (with_reducible repeat (first|apply Kd.eX|apply Kd.eT|apply Kd.eY));exact CX.out,bz HB⟩
attribute [local go_sem] dF dG eG eH cQ cR dH dI
mutual
def eP.j0:Nat ->Bool ->Int ->Int ->Int ->Int ->Int ->Int ->Int ->Int ->List Int ->List Int ->Option (List Int×Int)
 |0,_,_,_,_,_,_,_,_,_,_,_=>none
 |k+1,x7,zo,zq,BW,BX,BZ,zu,zw,zx,xE,zy=>if x7=true then (some (([]:List Int),21)) else (if (wrap64 ((wrap64 (20+(xE.length:Int)))+(zy.length:Int)))>65515 then (some (([]:List Int),23)) else ((some (([BW,BX]:List Int):List Int)).bind fun jD=>(eP.l0 k (([(zo / 256) % 256,(zo) % 256,(zq / 256) % 256,(zq) % 256]:List Int)) jD (jD.length:Int) 0 zo zq BW BX BZ zu zw zx xE zy)))
def eP.l0:Nat ->List Int ->List Int ->Int ->Int ->Int ->Int ->Int ->Int ->Int ->Int ->Int ->Int ->List Int ->List Int ->Option (List Int×Int)
 |0,_,_,_,_,_,_,_,_,_,_,_,_,_,_=>none
 |k+1,x4,x48,x49,WN,zo,zq,BW,BX,BZ,zu,zw,zx,xE,zy=>if WN<x49 then (if 0<=WN then (if WN<(x48.length:Int) then ((some (([((rd x48 WN) / 16777216) % 256,((rd x48 WN) / 65536) % 256,((rd x48 WN) / 256) % 256,(rd x48 WN) % 256]:List Int):List Int)).bind fun CY=>(if x4.length+CY.length<140737488355328 then (eP.l0 k (x4++CY) x48 x49 (wrap64 (WN+1)) zo zq BW BX BZ zu zw zx xE zy) else (none))) else (none)) else (none)) else ((some (([((((wrap64 (20+(xE.length:Int))) % 256) / 4)*16) % 256,BZ,(zu / 256) % 256,(zu) % 256,(zw / 256) % 256,(zw) % 256,(zx / 256) % 256,(zx) % 256]:List Int):List Int)).bind fun uA=>(if x4.length+uA.length<140737488355328 then ((aZ.f k (([(x4++uA),xE,zy]:List (List Int)))).bind fun NX=>(some (NX,0))) else (none)))
end
def eP.f (k:Nat) (aV:Int) (bh:Int) (bp:Int) (bw:Int) (dQ:Int) (dU:Int) (dZ:Int) (ee:Int) (bN:List Int) (cJ:List Int):Option (List Int×Int):=if ((bN.length:Int) % 4)=0 then (eP.j0 k (decide ((bN.length:Int)>40)) aV bh bp bw dQ dU dZ ee bN cJ) else (eP.j0 k true aV bh bp bw dQ dU dZ ee bN cJ)
theorem eP.calls (k:Nat) (aV:Int) (bh:Int) (bp:Int) (bw:Int) (dQ:Int) (dU:Int) (dZ:Int) (ee:Int) (pg:Nat ->Prop) (jw:Option Addr) (jx:Nat) (bN:List Int) (pq:Nat ->Prop) (jy:Option Addr) (jz:Nat) (cJ:List Int) (r1:List Int) (r2:Int) (w:World) (Aet:Kd.V (Kd.int .u8) 5 w w.heap.size (fun k_=>pg k_) (.slice jw bN.length jx) bN) (Aeu:Kd.V (Kd.int .u8) 5 w w.heap.size (fun k_=>pq k_) (.slice jy cJ.length jz) cJ) (h:eP.f k aV bh bp bw dQ dU dZ ee bN cJ=some (r1,r2)):
  Calls Try.prog 110 #[.agg #[.int .u16 aV,.int .u16 bh,.int .u32 bp,.int .u32 bw,.int .u8 dQ,.int .u16 dU,.int .u16 dZ,.int .u16 ee,.slice jw bN.length jx,.slice jy cJ.length jz]] w fun e w'=>∃ o6:Value,e= .returned (.tuple #[o6,.int .i64 r2]) /\ Kd.R (Kd.int .u8) 5 w' w.heap.size (fun k_=>(w.heap.size<=k_)) o6 r1 /\ Below w.heap.size w w':=by
 have qU:=Try.underlying137;have IM:=aa.mk (show Kd.V (Kd.int .u8) 5 w w.heap.size (fun k_=>((pg k_ \/ pq k_) \/ w.heap.size<=k_)) (.slice jw bN.length jx) bN from Kd.pN Aet (fun k_ hk=> .inl (.inl hk)));have IP:=aa.mk (show Kd.V (Kd.int .u8) 5 w w.heap.size (fun k_=>((pg k_ \/ pq k_) \/ w.heap.size<=k_)) (.slice jy cJ.length jz) cJ from Kd.pN Aeu (fun k_ hk=> .inl (.inr hk)));have HB:=gj w;have H:(if ((bN.length:Int) % 4)=0 then (eP.j0 k (decide ((bN.length:Int)>40)) aV bh bp bw dQ dU dZ ee bN cJ) else (eP.j0 k true aV bh bp bw dQ dU dZ ee bN cJ))=some (r1,r2):=h;clear h;have K9:=aa.mk H;clear H
 go_enter Try.func110,Try.ntmps110
 go_upto_region 1 with (first|((with_reducible refine aA (N:=1) rfl ?_);(try (refine eN (by rfl) ?_;dsimp only));refine aC ?hg (N:=1) ?hd (cs:= #[.int .u16 aV,.int .u16 bh,.int .u32 bp,.int .u32 bw,.int .u8 dQ,.int .u16 dU,.int .u16 dZ,.int .u16 ee,.slice jw bN.length jx,.slice jy cJ.length jz]) (t:=137) ?hr ?_;(case hd=>rfl);(case hg=>rfl);(case hr=>first|(go_simp;done)|(go_simp;rfl));intro iJ hg w3 bK hb;have aJ:=aa.mk (Kd.BP (Kd.HX (by (with_reducible repeat (first|apply Kd.iH|apply Kd.iI|apply Kd.jS));exact IM.out) iJ (Nat.le_of_eq hg.symm)) hb);have aQ:=aa.mk (Kd.BP (Kd.HX (by (with_reducible repeat (first|apply Kd.iH|apply Kd.iI|apply Kd.jS));exact IP.out) iJ (Nat.le_of_eq hg.symm)) hb);have bt:=aa.mk (aq (bz HB) hb);have cr:=aa.mk (bK);have uz:=aa.mk ((by rw [hg];exact (af (bz HB)):w.heap.size<=iJ));have yw:=aa.mk ((by rw [hg];exact (af (bz HB)):w.heap.size<=iJ));clear IM;clear IP;clear HB;have IM:=aJ;have IP:=aQ;have HB:=bt;have cK:=cr;have Aqa:=uz;have Aqb:=yw;clear aJ aQ bt cr uz yw;clear hb bK hg))
 (try simp only [Act.put,List.setIfInBounds_toArray,List.set_cons_zero,List.set_cons_succ])
 go_cut [7] (fun v7 wc=>∃ (kq:Nat) (qV:Bool),v7= .bool qV /\ aa (eP.j0 kq qV aV bh bp bw dQ dU dZ ee bN cJ=some (r1,r2)) /\ aa (kq<=k) /\ aa (Kd.V (Kd.int .u8) 5 wc w.heap.size (fun k_=>((pg k_ \/ pq k_) \/ w.heap.size<=k_) /\ k_≠iJ) (.slice jw bN.length jx) bN) /\ aa (Kd.V (Kd.int .u8) 5 wc w.heap.size (fun k_=>((pg k_ \/ pq k_) \/ w.heap.size<=k_) /\ k_≠iJ) (.slice jy cJ.length jz) cJ) /\ aa (wc.heap[iJ]?=some (.cells #[.int .u16 aV,.int .u16 bh,.int .u32 bp,.int .u32 bw,.int .u8 dQ,.int .u16 dU,.int .u16 dZ,.int .u16 ee,(.slice jw bN.length jx),(.slice jy cJ.length jz)] 137 (0,0))) /\ aa (Below w.heap.size w wc))
 case first=>
  have H:=K9.out;clear K9
  by_cases c4:((bN.length:Int) % 4)=0
  ·rw [au c4] at H
   have mH:(((bN.length:Int) % 4)==0)=true:=fH c4;have xQ:(((bN.length:Int) % 4) !=0)=false:=kO c4;clear c4
   (first|rw [mH]|(simp only [jk,mo];rw [mH])|skip)
   have H':=aa.mk H;clear H;have Ud:=rC cK.out;have Ue:=ae cK.out
   go_wp2
   go_meet
   case rel=>exact ⟨_,(decide ((bN.length:Int)>40)),(by first|rfl|(simp;done)|(simp [*];done)),H',⟨by first|omega|exact Nat.le_refl _⟩,⟨by (with_reducible repeat (first|apply Kd.iH|apply Kd.iI|apply Kd.jS));exact IM.out⟩,⟨by (with_reducible repeat (first|apply Kd.iH|apply Kd.iI|apply Kd.jS));exact IP.out⟩,⟨kz cK⟩,⟨bz HB⟩⟩
  ·rw [ax c4] at H
   have mH:(((bN.length:Int) % 4)==0)=false:=fc c4;have xQ:(((bN.length:Int) % 4) !=0)=true:=lA c4
   (first|rw [mH]|(simp only [jk,mo];rw [mH])|skip)
   have H':=aa.mk H;clear H;have MC:=rC cK.out;have MD:=ae cK.out
   go_wp2
   go_meet
   case rel=>exact ⟨_,(true),(by first|rfl|(simp;done)|(simp [*];done)),H',⟨by first|omega|exact Nat.le_refl _⟩,⟨by (with_reducible repeat (first|apply Kd.iH|apply Kd.iI|apply Kd.jS));exact IM.out⟩,⟨by (with_reducible repeat (first|apply Kd.iH|apply Kd.iI|apply Kd.jS));exact IP.out⟩,⟨kz cK⟩,⟨bz HB⟩⟩
 case rest=>
  clear K9;obtain ⟨kq,qV,rfl,HA,HJ1,fz,fA,cK,HB⟩:=hcut
  cases kq with
  |zero=>exact absurd HA.out (by simp [eP.j0])
  |succ NY=>
   have H:=HA.out;clear HA;simp only [eP.j0] at H
   by_cases c7:qV=true
   ·subst c7
    have H1:(some (([]:List Int),21))=some (r1,r2):=by rw [au rfl] at H;exact H
    clear H;have H:=H1;clear H1;simp only [Option.some.injEq,Prod.mk.injEq] at H
    obtain ⟨rfl,rfl⟩:=H
    go_wp2
    go_ret2
    exact ⟨_,by first|rfl|(simp [aj,ak]<;>rfl)|(simp [*,aj,ak]<;>rfl),by first|exact Kd.cl _ _ _ _ _|exact Kd.ju _ _ _ _ _|exact Kd.jv _ _ _ _ _|exact Kd.jr _ _ _ _ _|exact Kd.js _ _ _ _ _,bz HB⟩
   ·replace c7:=xP c7
    subst c7;have H1:(if (wrap64 ((wrap64 (20+(bN.length:Int)))+(cJ.length:Int)))>65515 then (some (([]:List Int),23)) else ((some (([bp,bw]:List Int):List Int)).bind fun jD=>(eP.l0 NY (([(aV / 256) % 256,(aV) % 256,(bh / 256) % 256,(bh) % 256]:List Int)) jD (jD.length:Int) 0 aV bh bp bw dQ dU dZ ee bN cJ)))=some (r1,r2):=by rw [ax (show ¬ (false=true) by decide)] at H;exact H
    clear H;have H:=H1;clear H1
    by_cases c8:(wrap64 ((wrap64 (20+(bN.length:Int)))+(cJ.length:Int)))>65515
    ·rw [au c8] at H
     have nX:decide (65515<(wrap64 ((wrap64 (20+(bN.length:Int)))+(cJ.length:Int))))=true:=bS c8;clear c8;simp only [Option.some.injEq,Prod.mk.injEq] at H
     obtain ⟨rfl,rfl⟩:=H;have CO:=cz cK.out 0 rfl;have CP:=cz cK.out 1 rfl;have CQ:=cz cK.out 2 rfl;have CR:=cz cK.out 3 rfl;have Gl:=cz cK.out 4 rfl;have Aab:=cz cK.out 5 rfl;have Aac:=cz cK.out 6 rfl;have Aad:=cz cK.out 7 rfl;have Aae:=cz cK.out 8 rfl;have Aaf:=cz cK.out 9 rfl;have CS:=ae cK.out 0;have CT:=ae cK.out 1;have CU:=ae cK.out 2;have CV:=ae cK.out 3;have Gm:=ae cK.out 4;have Aag:=ae cK.out 5;have Aah:=ae cK.out 6;have Aai:=ae cK.out 7;have Aaj:=ae cK.out 8;have Aak:=ae cK.out 9
     go_wp2
     go_ret2
     exact ⟨_,by first|rfl|(simp [aj,ak]<;>rfl)|(simp [*,aj,ak]<;>rfl),by first|exact Kd.cl _ _ _ _ _|exact Kd.ju _ _ _ _ _|exact Kd.jv _ _ _ _ _|exact Kd.jr _ _ _ _ _|exact Kd.js _ _ _ _ _,bz HB⟩
    ·rw [ax c8] at H
     have nX:decide (65515<(wrap64 ((wrap64 (20+(bN.length:Int)))+(cJ.length:Int))))=false:=gO c8;clear c8;obtain ⟨Aml,QB⟩:∃ y_:List Int,y_=(([(aV / 256) % 256,(aV) % 256,(bh / 256) % 256,(bh) % 256]:List Int)):=⟨_,rfl⟩
     rw [<- QB] at H
     have WO:=aa.mk QB;clear QB;obtain ⟨jD,QC⟩:∃ y_:List Int,y_=(([bp,bw]:List Int)):=⟨_,rfl⟩
     rw [<- QC] at H
     have WQ:=aa.mk QC;clear QC;have H':=aa.mk H;clear H;have rT:=cz cK.out 0 rfl;have rU:=cz cK.out 1 rfl;have rV:=cz cK.out 2 rfl;have rW:=cz cK.out 3 rfl;have xF:=cz cK.out 4 rfl;have zz:=cz cK.out 5 rfl;have zA:=cz cK.out 6 rfl;have zB:=cz cK.out 7 rfl;have zC:=cz cK.out 8 rfl;have zD:=cz cK.out 9 rfl;have rX:=ae cK.out 0;have rY:=ae cK.out 1;have rZ:=ae cK.out 2;have sg:=ae cK.out 3;have xG:=ae cK.out 4;have zE:=ae cK.out 5;have zF:=ae cK.out 6;have zG:=ae cK.out 7;have zH:=ae cK.out 8;have zI:=ae cK.out 9
     go_wp2_with (first|((with_reducible refine aA (N:=43) rfl ?_);(try (refine eN (by rfl) ?_;dsimp only));refine Kd.qq (Kd.int .u8) _ 5 ?hg (N:=43) ?hd (xs:=([(aV / 256) % 256,(aV) % 256,(bh / 256) % 256,(bh) % 256]:List Int)) (inner:=[.int .u8 ((aV / 256) % 256),.int .u8 ((aV) % 256),.int .u8 ((bh / 256) % 256),.int .u8 ((bh) % 256)]) (ok:=fun _=>True) (rq:=fun _=>True) ?hr ?hp (fun _ hk=>hk) trivial (Below.refl _ _) (Nat.le_refl _) (by simp) ?_;(case hd=>rfl);(case hg=>rfl);(case hr=>first|(go_simp;done)|(go_simp;simp only [IntKind.wrap_u8,IntKind.wrap_u16,IntKind.wrap_u32];done)|(go_simp;rfl));(case hp=>exact (cI.one (show Kd.M (Kd.int .u8) _ _ _ ((aV / 256) % 256) [.int .u8 ((aV / 256) % 256)] from rfl) (cI.one (show Kd.M (Kd.int .u8) _ _ _ ((aV) % 256) [.int .u8 ((aV) % 256)] from rfl) (cI.one (show Kd.M (Kd.int .u8) _ _ _ ((bh / 256) % 256) [.int .u8 ((bh / 256) % 256)] from rfl) (cI.one (show Kd.M (Kd.int .u8) _ _ _ ((bh) % 256) [.int .u8 ((bh) % 256)] from rfl) (cI.none _ _))))));intro As8 qf Av hb gJ iM;clear gJ iM;(first|rw [<- WO.out] at Av|(simp only [Int.reduceToNat] at Av;rw [<- WO.out] at Av));have aJ:=aa.mk (Kd.mW (by (with_reducible repeat (first|apply Kd.iH|apply Kd.iI|apply Kd.jS));exact fz.out) (Kd.kf Av) hb);have aQ:=aa.mk (Kd.mW (by (with_reducible repeat (first|apply Kd.iH|apply Kd.iI|apply Kd.jS));exact fA.out) (Kd.kf Av) hb);have bt:=aa.mk (Kd.bP (Kd.yD (M:=fun k_=>(w.heap.size<=k_)) Av (af (bz HB)) (fun k_ h_=>h_)) (af (bz HB)));have cr:=aa.mk (bn (kz cK) hb);have uz:=aa.mk (aq (bz HB) hb);clear fz;clear fA;clear cK;clear HB;have fz:=aJ;have fA:=aQ;have ME:=bt;have cK:=cr;have HB:=uz;clear aJ aQ bt cr uz;clear hb Av;have F2:qf.cell? ⟨iJ,0,none⟩=some (.int .u16 aV):=cz cK.out 0 rfl;have F3:qf.cell? ⟨iJ,1,none⟩=some (.int .u16 bh):=cz cK.out 1 rfl;have F4:qf.cell? ⟨iJ,2,none⟩=some (.int .u32 bp):=cz cK.out 2 rfl;have F5:qf.cell? ⟨iJ,3,none⟩=some (.int .u32 bw):=cz cK.out 3 rfl;have Uf:qf.cell? ⟨iJ,4,none⟩=some (.int .u8 dQ):=cz cK.out 4 rfl;have Ug:qf.cell? ⟨iJ,5,none⟩=some (.int .u16 dU):=cz cK.out 5 rfl;have Uh:qf.cell? ⟨iJ,6,none⟩=some (.int .u16 dZ):=cz cK.out 6 rfl;have Ui:qf.cell? ⟨iJ,7,none⟩=some (.int .u16 ee):=cz cK.out 7 rfl;have Uj:qf.cell? ⟨iJ,8,none⟩=some (.slice jw bN.length jx):=cz cK.out 8 rfl;have Uk:qf.cell? ⟨iJ,9,none⟩=some (.slice jy cJ.length jz):=cz cK.out 9 rfl;have F6:=ae cK.out 0;have F7:=ae cK.out 1;have F8:=ae cK.out 2;have F9:=ae cK.out 3;have Ul:=ae cK.out 4;have Um:=ae cK.out 5;have Un:=ae cK.out 6;have Uo:=ae cK.out 7;have Uq:=ae cK.out 8;have Ur:=ae cK.out 9)|((with_reducible refine aA (N:=48) rfl ?_);(try (refine eN (by rfl) ?_;dsimp only));refine Kd.qq (Kd.int .u32) _ 27 ?hg (N:=48) ?hd (xs:=([bp,bw]:List Int)) (inner:=[.int .u32 bp,.int .u32 bw]) (ok:=fun _=>True) (rq:=fun _=>True) ?hr ?hp (fun _ hk=>hk) trivial (Below.refl _ _) (Nat.le_refl _) (by simp) ?_;(case hd=>rfl);(case hg=>rfl);(case hr=>first|(go_simp;done)|(go_simp;rfl));(case hp=>exact (cI.one (show Kd.M (Kd.int .u32) _ _ _ bp [.int .u32 bp] from rfl) (cI.one (show Kd.M (Kd.int .u32) _ _ _ bw [.int .u32 bw] from rfl) (cI.none _ _))));intro As9 qN La hb gJ iM;clear gJ iM;(first|rw [<- WQ.out] at La|(simp only [Int.reduceToNat] at La;rw [<- WQ.out] at La));have aJ:=aa.mk (Kd.mW (by (with_reducible repeat (first|apply Kd.iH|apply Kd.iI|apply Kd.jS));exact fz.out) (Kd.kf La) hb);have aQ:=aa.mk (Kd.mW (by (with_reducible repeat (first|apply Kd.iH|apply Kd.iI|apply Kd.jS));exact fA.out) (Kd.kf La) hb);have bt:=aa.mk (Kd.fU (Kd.rz ME) hb);have cr:=aa.mk (Kd.bP (Kd.yD (M:=fun k_=>(w.heap.size<=k_)) La (af (bz HB)) (fun k_ h_=>h_)) (af (bz HB)));have uz:=aa.mk (bn (kz cK) hb);have yw:=aa.mk (aq (bz HB) hb);clear fz;clear fA;clear ME;clear cK;clear HB;have fz:=aJ;have fA:=aQ;have ME:=bt;have WR:=cr;have cK:=uz;have HB:=yw;clear aJ aQ bt cr uz yw;clear hb La;obtain ⟨zJ,yc,Amm⟩:=Kd.da WR.out;subst Amm))
     go_loopg [4,50] NY (fun kq v4 v50 w'=>∃ (Aw:List Int) (jK:Int),v50= .int .i64 jK /\ aa (eP.l0 kq Aw jD (jD.length:Int) jK aV bh bp bw dQ dU dZ ee bN cJ=some (r1,r2)) /\ aa (kq<=NY) /\ aa (Kd.R (Kd.int .u8) 5 w' w.heap.size (fun k_=>(w.heap.size<=k_)) v4 Aw) /\ aa (Kd.R (Kd.int .u32) 27 w' w.heap.size (fun k_=>(w.heap.size<=k_)) (.slice zJ jD.length yc) jD) /\ aa (Kd.V (Kd.int .u8) 5 w' w.heap.size (fun k_=>((pg k_ \/ pq k_) \/ w.heap.size<=k_) /\ some k_≠(v4:Value).ownBlock /\ some k_≠((.slice zJ jD.length yc):Value).ownBlock /\ k_≠iJ) (.slice jw bN.length jx) bN) /\ aa (Kd.V (Kd.int .u8) 5 w' w.heap.size (fun k_=>((pg k_ \/ pq k_) \/ w.heap.size<=k_) /\ some k_≠(v4:Value).ownBlock /\ some k_≠((.slice zJ jD.length yc):Value).ownBlock /\ k_≠iJ) (.slice jy cJ.length jz) cJ) /\ aa (w'.heap[iJ]?=some (.cells #[.int .u16 aV,.int .u16 bh,.int .u32 bp,.int .u32 bw,.int .u8 dQ,.int .u16 dU,.int .u16 dZ,.int .u16 ee,(.slice jw bN.length jx),(.slice jy cJ.length jz)] 137 (0,0))) /\ aa (Below w.heap.size w w'))
     case atStart=>exact ⟨(Aml),(0),(by first|rfl|(simp;done)|(simp [*];done)),H',⟨Nat.le_refl _⟩,⟨by (with_reducible repeat (first|apply Kd.eX|apply Kd.eT|apply Kd.eY));exact Kd.dm ME.out (fun _ hk=>hk.1)⟩,⟨by (with_reducible repeat (first|apply Kd.eX|apply Kd.eT|apply Kd.eY));exact Kd.dm WR.out (fun _ hk=>hk.1)⟩,⟨by (with_reducible repeat (first|apply Kd.iH|apply Kd.iI|apply Kd.jS));exact Kd.pN fz.out (fun _ hk=>⟨hk.1.1.1,⟨hk.1.2,⟨hk.2,hk.1.1.2⟩⟩⟩)⟩,⟨by (with_reducible repeat (first|apply Kd.iH|apply Kd.iI|apply Kd.jS));exact Kd.pN fA.out (fun _ hk=>⟨hk.1.1.1,⟨hk.1.2,⟨hk.2,hk.1.1.2⟩⟩⟩)⟩,⟨kz cK⟩,⟨bz HB⟩⟩
     case round=>
      clear H'
      try clear c7
      try clear c8
      try clear nX
      try clear rT
      try clear rU
      try clear rV
      try clear rW
      try clear xF
      try clear zz
      try clear zA
      try clear zB
      try clear zC
      try clear zD
      try clear F2
      try clear F3
      try clear F4
      try clear F5
      try clear Uf
      try clear Ug
      try clear Uh
      try clear Ui
      try clear Uj
      try clear Uk
      try clear rX
      try clear rY
      try clear rZ
      try clear sg
      try clear xG
      try clear zE
      try clear zF
      try clear zG
      try clear zH
      try clear zI
      try clear F6
      try clear F7
      try clear F8
      try clear F9
      try clear Ul
      try clear Um
      try clear Un
      try clear Uo
      try clear Uq
      try clear Ur
      obtain ⟨Aw,jK,rfl,HA,WM,yd,nE,fz,fA,cK,HB⟩:=hrel
      cases gk with
      |zero=>exact absurd HA.out (by simp [eP.l0])
      |succ k2=>
       have H:=HA.out;clear HA;simp only [eP.l0] at H
       by_cases rL:jK<(jD.length:Int)
       ·rw [au rL] at H
        have Ib:decide (jK<(jD.length:Int))=true:=bS rL;clear rL
        by_cases Us:0<=jK
        ·rw [au Us] at H
         have Aqc:decide (0<=jK)=true:=bS Us;clear Us
         by_cases Aj:jK<(jD.length:Int)
         ·rw [au Aj] at H
          have PU:decide (jK<(jD.length:Int))=true:=bS Aj;clear Aj;obtain ⟨CY,IQ⟩:∃ y_:List Int,y_=(([((rd jD jK) / 16777216) % 256,((rd jD jK) / 65536) % 256,((rd jD jK) / 256) % 256,(rd jD jK) % 256]:List Int)):=⟨_,rfl⟩
          replace H:(if Aw.length+CY.length<140737488355328 then (eP.l0 k2 (Aw++CY) jD (jD.length:Int) (wrap64 (jK+1)) aV bh bp bw dQ dU dZ ee bN cJ) else (none))=some (r1,r2):=by first|(rw [IQ];with_reducible exact H)|(have kP:=(bA _ _).symm.trans H;rw [IQ];with_reducible exact kP)|(have kP:=(bA _ _).symm.trans H;with_reducible exact kP)|with_reducible exact H|(rw [IQ];exact H)|exact H
          have WS:=aa.mk IQ;clear IQ
          by_cases Lb:Aw.length+CY.length<140737488355328
          ·rw [au Lb] at H
           have QD:=aa.mk Lb;clear Lb;obtain ⟨Aev,IU⟩:∃ y_:List Int,y_=(Aw++CY):=⟨_,rfl⟩
           replace H:(eP.l0 k2 Aev jD (jD.length:Int) (wrap64 (jK+1)) aV bh bp bw dQ dU dZ ee bN cJ)=some (r1,r2):=by first|(rw [IU];with_reducible exact H)|(have kP:=(bA _ _).symm.trans H;rw [IU];with_reducible exact kP)|(have kP:=(bA _ _).symm.trans H;with_reducible exact kP)|with_reducible exact H|(rw [IU];exact H)|exact H
           have Aew:=aa.mk IU;clear IU;have H':=aa.mk H;clear H;have Aal:0<=(jK:Int):=gD;have Aam:jK<(jD.length:Int):=gD;obtain ⟨WT,Amn,AhZ⟩:=Kd.dB (Kd.av nE.out).2.2 jK Aal Aam
           cases Amn
           replace Aal:=eq_true Aal;replace Aam:=eq_true Aam
           go_wp2_with (first|((with_reducible refine aA (N:=66) rfl ?_);(try (refine eN (by rfl) ?_;dsimp only));refine Kd.qq (Kd.int .u8) _ 5 ?hg (N:=66) ?hd (xs:=([((rd jD jK) / 16777216) % 256,((rd jD jK) / 65536) % 256,((rd jD jK) / 256) % 256,(rd jD jK) % 256]:List Int)) (inner:=[.int .u8 (((rd jD jK) / 16777216) % 256),.int .u8 (((rd jD jK) / 65536) % 256),.int .u8 (((rd jD jK) / 256) % 256),.int .u8 ((rd jD jK) % 256)]) (ok:=fun _=>True) (rq:=fun _=>True) ?hr ?hp (fun _ hk=>hk) trivial (Below.refl _ _) (Nat.le_refl _) (by simp) ?_;(case hd=>rfl);(case hg=>rfl);(case hr=>first|(go_simp;done)|(go_simp;simp only [IntKind.wrap_u8,IntKind.wrap_u16,IntKind.wrap_u32];done)|(go_simp;rfl));(case hp=>exact (cI.one (show Kd.M (Kd.int .u8) _ _ _ (((rd jD jK) / 16777216) % 256) [.int .u8 (((rd jD jK) / 16777216) % 256)] from rfl) (cI.one (show Kd.M (Kd.int .u8) _ _ _ (((rd jD jK) / 65536) % 256) [.int .u8 (((rd jD jK) / 65536) % 256)] from rfl) (cI.one (show Kd.M (Kd.int .u8) _ _ _ (((rd jD jK) / 256) % 256) [.int .u8 (((rd jD jK) / 256) % 256)] from rfl) (cI.one (show Kd.M (Kd.int .u8) _ _ _ ((rd jD jK) % 256) [.int .u8 ((rd jD jK) % 256)] from rfl) (cI.none _ _))))));intro Atc w21 IV hb gJ iM;clear gJ iM;(first|rw [<- WS.out] at IV|(simp only [Int.reduceToNat] at IV;rw [<- WS.out] at IV));have aJ:=aa.mk (Kd.mU (Kd.rz yd) (Kd.kf IV) hb);have aQ:=aa.mk (Kd.fU (Kd.rz nE) hb);have bt:=aa.mk (Kd.mW (by (with_reducible repeat (first|apply Kd.iH|apply Kd.iI|apply Kd.jS));exact fz.out) (Kd.kf IV) hb);have cr:=aa.mk (Kd.mW (by (with_reducible repeat (first|apply Kd.iH|apply Kd.iI|apply Kd.jS));exact fA.out) (Kd.kf IV) hb);have uz:=aa.mk (Kd.bP (Kd.ry (Kd.yD (M:=fun k_=>(w.heap.size<=k_)) IV (af (bz HB)) (fun k_ h_=>h_)) (Kd.oL (Kd.rz yd))) (af (bz HB)));have yw:=aa.mk (bn (kz cK) hb);have Bh:=aa.mk (aq (bz HB) hb);clear yd;clear nE;clear fz;clear fA;clear cK;clear HB;have yd:=aJ;have nE:=aQ;have fz:=bt;have fA:=cr;have ER:=uz;have cK:=yw;have HB:=Bh;clear aJ aQ bt cr uz yw Bh;clear hb IV;obtain ⟨Aao,Aap,Amo⟩:=Kd.da ER.out;subst Amo)|((with_reducible refine fo (b:= .append) (xs:= #[.tmp 54,.tmp 66]) rfl ?_);(try (refine eN (by rfl) ?_;dsimp only));at_builtin;refine Kd.gC (Kd.int .u8) (w0:=w) w.heap.size rfl (.tmp 54) (.tmp 66) 23 5 (.int .u8 0) 1 rfl Try.underlying23 gB rfl (by decide) (by omega) u4 Aw CY _ _ _ (fun k_=>(w.heap.size<=k_) /\ some k_≠(.slice Aao CY.length Aap:Value).ownBlock) (fun _=>False) rfl rfl ?aO ?aR (fun _ _ h=>h) (fun _ h=>h.elim) ?aF ?aB ?aS ?aL ?_;(case aR=>repeat (first|exact (Kd.av ER.out).2.2|(with_reducible refine Kd.fD ?_ _)|(with_reducible refine Kd.fj ?_ _)|(with_reducible refine Kd.gP ?_)));(case aB=>exact bz HB);(case aF=>exact (fun k_ hk=>⟨(Nat.le_trans (af (bz HB)) hk),Kd.mN (Kd.oL (Kd.rz ER)) k_ hk⟩));(case aO=>exact (Kd.rz yd));(case aS=>exact (af (bz HB)));(case aL=>have:=QD.out;omega);intro Atd w23 ho hb hg hat;rw [<- Aew.out] at ho;have aJ:=aa.mk (Kd.uL (Kd.rz nE) (Kd.rS (Kd.rz yd)) (by decide) hg);have aQ:=aa.mk (Kd.zh (ok:=(fun k_=>((pg k_ \/ pq k_) \/ w.heap.size<=k_) /\ some k_≠(.slice (some WT) jD.length yc:Value).ownBlock /\ some k_≠(.slice Aao CY.length Aap:Value).ownBlock /\ k_≠iJ)) (by (with_reducible repeat (first|apply Kd.iH|apply Kd.iI|apply Kd.jS));exact Kd.pN fz.out (fun _ hk=>⟨⟨hk.1.1,⟨hk.1.2.2.1,⟨hk.2,hk.1.2.2.2⟩⟩⟩,hk.1.2.1⟩)) hg hat);have bt:=aa.mk (Kd.zh (ok:=(fun k_=>((pg k_ \/ pq k_) \/ w.heap.size<=k_) /\ some k_≠(.slice (some WT) jD.length yc:Value).ownBlock /\ some k_≠(.slice Aao CY.length Aap:Value).ownBlock /\ k_≠iJ)) (by (with_reducible repeat (first|apply Kd.iH|apply Kd.iI|apply Kd.jS));exact Kd.pN fA.out (fun _ hk=>⟨⟨hk.1.1,⟨hk.1.2.2.1,⟨hk.2,hk.1.2.2.2⟩⟩⟩,hk.1.2.1⟩)) hg hat);have cr:=aa.mk (gV (kz cK) hg (Kd.nw yd.out cK.out (by decide)));have uz:=aa.mk (Kd.nV (ok:=(fun k_=>(w.heap.size<=k_))) (by (with_reducible repeat (first|apply Kd.eX|apply Kd.eT|apply Kd.eY));exact Kd.dm ER.out (fun _ hk=>⟨hk.1.1,hk.2⟩)) hg hat);have yw:=aa.mk (hb);have Bh:=aa.mk (ho);clear nE;clear fz;clear fA;clear cK;clear ER;clear HB;clear yd;have nE:=aJ;have fz:=aQ;have fA:=bt;have cK:=cr;have ER:=uz;have HB:=yw;have Aex:=Bh;clear aJ aQ bt cr uz yw Bh;clear ho hb hg hat))
           go_roundg k2
           case measure=>have:=HJ1.out;have:=WM.out;omega
           case rel=>exact ⟨(Aev),(wrap64 (jK+1)),(by first|rfl|(simp;done)|(simp [*];done)),H',⟨by have:=HJ1.out;have:=WM.out;omega⟩,⟨by (with_reducible repeat (first|apply Kd.eX|apply Kd.eT|apply Kd.eY));exact Kd.dm Aex.out (fun _ hk=>hk.1)⟩,⟨Kd.rz nE⟩,⟨by (with_reducible repeat (first|apply Kd.iH|apply Kd.iI|apply Kd.jS));exact Kd.pN fz.out (fun _ hk=>⟨hk.1.1,⟨hk.2,⟨hk.1.2.1,hk.1.2.2.2⟩⟩⟩)⟩,⟨by (with_reducible repeat (first|apply Kd.iH|apply Kd.iI|apply Kd.jS));exact Kd.pN fA.out (fun _ hk=>⟨hk.1.1,⟨hk.2,⟨hk.1.2.1,hk.1.2.2.2⟩⟩⟩)⟩,⟨kz cK⟩,⟨bz HB⟩⟩
          ·rw [ax Lb] at H
           cases H
         ·rw [ax Aj] at H
          cases H
        ·rw [ax Us] at H
         cases H
       ·rw [ax rL] at H
        have Ib:decide (jK<(jD.length:Int))=false:=gO rL;clear rL;obtain ⟨uA,IW⟩:∃ y_:List Int,y_=(([((((wrap64 (20+(bN.length:Int))) % 256) / 4)*16) % 256,dQ,(dU / 256) % 256,(dU) % 256,(dZ / 256) % 256,(dZ) % 256,(ee / 256) % 256,(ee) % 256]:List Int)):=⟨_,rfl⟩
        replace H:(if Aw.length+uA.length<140737488355328 then ((aZ.f k2 (([(Aw++uA),bN,cJ]:List (List Int)))).bind fun NX=>(some (NX,0))) else (none))=some (r1,r2):=by first|(rw [IW];with_reducible exact H)|(have kP:=(bA _ _).symm.trans H;rw [IW];with_reducible exact kP)|(have kP:=(bA _ _).symm.trans H;with_reducible exact kP)|with_reducible exact H|(rw [IW];exact H)|exact H
        have WU:=aa.mk IW;clear IW
        by_cases MF:Aw.length+uA.length<140737488355328
        ·rw [au MF] at H
         have QE:=aa.mk MF;clear MF;obtain ⟨QF,QG⟩:∃ y_:List Int,y_=(Aw++uA):=⟨_,rfl⟩
         rw [<- QG] at H
         have Aey:=aa.mk QG;clear QG;obtain ⟨Aez,QH⟩:∃ y_:List (List Int),y_=(([QF,bN,cJ]:List (List Int))):=⟨_,rfl⟩
         rw [<- QH] at H
         have WV:=aa.mk QH;clear QH;replace H:=cZ H;obtain ⟨NX,Iy,H⟩:=H;replace H:(some (NX,0))=some (r1,r2):=H;have A26:=aa.mk Iy;clear Iy;simp only [Option.some.injEq,Prod.mk.injEq] at H
         obtain ⟨rfl,rfl⟩:=H;have QI:=rC cK.out;have QJ:=ae cK.out
         go_wp2_with (first|((with_reducible refine aA (N:=100) rfl ?_);(try (refine eN (by rfl) ?_;dsimp only));refine Kd.qq (Kd.int .u8) _ 5 ?hg (N:=100) ?hd (xs:=([((((wrap64 (20+(bN.length:Int))) % 256) / 4)*16) % 256,dQ,(dU / 256) % 256,(dU) % 256,(dZ / 256) % 256,(dZ) % 256,(ee / 256) % 256,(ee) % 256]:List Int)) (inner:=[.int .u8 (((((wrap64 (20+(bN.length:Int))) % 256) / 4)*16) % 256),.int .u8 dQ,.int .u8 ((dU / 256) % 256),.int .u8 ((dU) % 256),.int .u8 ((dZ / 256) % 256),.int .u8 ((dZ) % 256),.int .u8 ((ee / 256) % 256),.int .u8 ((ee) % 256)]) (ok:=fun _=>True) (rq:=fun _=>True) ?hr ?hp (fun _ hk=>hk) trivial (Below.refl _ _) (Nat.le_refl _) (by simp) ?_;(case hd=>rfl);(case hg=>rfl);(case hr=>first|(go_simp;done)|(go_simp;simp only [IntKind.wrap_u8,IntKind.wrap_u16,IntKind.wrap_u32];done)|(go_simp;rfl));(case hp=>exact (cI.one (show Kd.M (Kd.int .u8) _ _ _ (((((wrap64 (20+(bN.length:Int))) % 256) / 4)*16) % 256) [.int .u8 (((((wrap64 (20+(bN.length:Int))) % 256) / 4)*16) % 256)] from rfl) (cI.one (show Kd.M (Kd.int .u8) _ _ _ dQ [.int .u8 dQ] from rfl) (cI.one (show Kd.M (Kd.int .u8) _ _ _ ((dU / 256) % 256) [.int .u8 ((dU / 256) % 256)] from rfl) (cI.one (show Kd.M (Kd.int .u8) _ _ _ ((dU) % 256) [.int .u8 ((dU) % 256)] from rfl) (cI.one (show Kd.M (Kd.int .u8) _ _ _ ((dZ / 256) % 256) [.int .u8 ((dZ / 256) % 256)] from rfl) (cI.one (show Kd.M (Kd.int .u8) _ _ _ ((dZ) % 256) [.int .u8 ((dZ) % 256)] from rfl) (cI.one (show Kd.M (Kd.int .u8) _ _ _ ((ee / 256) % 256) [.int .u8 ((ee / 256) % 256)] from rfl) (cI.one (show Kd.M (Kd.int .u8) _ _ _ ((ee) % 256) [.int .u8 ((ee) % 256)] from rfl) (cI.none _ _))))))))));intro Ate w28 zK hb gJ iM;clear gJ iM;(first|rw [<- WU.out] at zK|(simp only [Int.reduceToNat] at zK;rw [<- WU.out] at zK));have aJ:=aa.mk (Kd.mU (Kd.rz yd) (Kd.kf zK) hb);have aQ:=aa.mk (Kd.fU (Kd.rz nE) hb);have bt:=aa.mk (Kd.mW (by (with_reducible repeat (first|apply Kd.iH|apply Kd.iI|apply Kd.jS));exact fz.out) (Kd.kf zK) hb);have cr:=aa.mk (Kd.mW (by (with_reducible repeat (first|apply Kd.iH|apply Kd.iI|apply Kd.jS));exact fA.out) (Kd.kf zK) hb);have uz:=aa.mk (Kd.bP (Kd.ry (Kd.yD (M:=fun k_=>(w.heap.size<=k_)) zK (af (bz HB)) (fun k_ h_=>h_)) (Kd.oL (Kd.rz yd))) (af (bz HB)));have yw:=aa.mk (bn (kz cK) hb);have Bh:=aa.mk (aq (bz HB) hb);clear yd;clear nE;clear fz;clear fA;clear cK;clear HB;have yd:=aJ;have nE:=aQ;have fz:=bt;have fA:=cr;have tA:=uz;have cK:=yw;have HB:=Bh;clear aJ aQ bt cr uz yw Bh;clear hb zK;obtain ⟨yf,yg,Ut⟩:=Kd.da tA.out;subst Ut)|((with_reducible refine fo (b:= .append) (xs:= #[.tmp 69,.tmp 100]) rfl ?_);(try (refine eN (by rfl) ?_;dsimp only));at_builtin;refine Kd.gC (Kd.int .u8) (w0:=w) w.heap.size rfl (.tmp 69) (.tmp 100) 23 5 (.int .u8 0) 1 rfl Try.underlying23 gB rfl (by decide) (by omega) u4 Aw uA _ _ _ (fun k_=>(w.heap.size<=k_) /\ some k_≠(.slice yf uA.length yg:Value).ownBlock) (fun _=>False) rfl rfl ?aO ?aR (fun _ _ h=>h) (fun _ h=>h.elim) ?aF ?aB ?aS ?aL ?_;(case aR=>repeat (first|exact (Kd.av tA.out).2.2|(with_reducible refine Kd.fD ?_ _)|(with_reducible refine Kd.fj ?_ _)|(with_reducible refine Kd.gP ?_)));(case aB=>exact bz HB);(case aF=>exact (fun k_ hk=>⟨(Nat.le_trans (af (bz HB)) hk),Kd.mN (Kd.oL (Kd.rz tA)) k_ hk⟩));(case aO=>exact (Kd.rz yd));(case aS=>exact (af (bz HB)));(case aL=>have:=QE.out;omega);intro Atf NZ ho hb hg hat;rw [<- Aey.out] at ho;have aJ:=aa.mk (Kd.uL (Kd.rz nE) (Kd.rS (Kd.rz yd)) (by decide) hg);have aQ:=aa.mk (Kd.zh (ok:=(fun k_=>((pg k_ \/ pq k_) \/ w.heap.size<=k_) /\ some k_≠(.slice zJ jD.length yc:Value).ownBlock /\ some k_≠(.slice yf uA.length yg:Value).ownBlock /\ k_≠iJ)) (by (with_reducible repeat (first|apply Kd.iH|apply Kd.iI|apply Kd.jS));exact Kd.pN fz.out (fun _ hk=>⟨⟨hk.1.1,⟨hk.1.2.2.1,⟨hk.2,hk.1.2.2.2⟩⟩⟩,hk.1.2.1⟩)) hg hat);have bt:=aa.mk (Kd.zh (ok:=(fun k_=>((pg k_ \/ pq k_) \/ w.heap.size<=k_) /\ some k_≠(.slice zJ jD.length yc:Value).ownBlock /\ some k_≠(.slice yf uA.length yg:Value).ownBlock /\ k_≠iJ)) (by (with_reducible repeat (first|apply Kd.iH|apply Kd.iI|apply Kd.jS));exact Kd.pN fA.out (fun _ hk=>⟨⟨hk.1.1,⟨hk.1.2.2.1,⟨hk.2,hk.1.2.2.2⟩⟩⟩,hk.1.2.1⟩)) hg hat);have cr:=aa.mk (gV (kz cK) hg (Kd.nw yd.out cK.out (by decide)));have uz:=aa.mk (Kd.nV (ok:=(fun k_=>(w.heap.size<=k_))) (by (with_reducible repeat (first|apply Kd.eX|apply Kd.eT|apply Kd.eY));exact Kd.dm tA.out (fun _ hk=>⟨hk.1.1,hk.2⟩)) hg hat);have yw:=aa.mk (hb);have Bh:=aa.mk (ho);clear nE;clear fz;clear fA;clear cK;clear tA;clear HB;clear yd;have nE:=aJ;have fz:=aQ;have fA:=bt;have cK:=cr;have tA:=uz;have HB:=yw;have MG:=Bh;clear aJ aQ bt cr uz yw Bh;clear ho hb hg hat;have Ah0:NZ.cell? ⟨iJ,0,none⟩=some (.int .u16 aV):=cz cK.out 0 rfl;have Ah1:NZ.cell? ⟨iJ,1,none⟩=some (.int .u16 bh):=cz cK.out 1 rfl;have Ah2:NZ.cell? ⟨iJ,2,none⟩=some (.int .u32 bp):=cz cK.out 2 rfl;have Ah3:NZ.cell? ⟨iJ,3,none⟩=some (.int .u32 bw):=cz cK.out 3 rfl;have Ah4:NZ.cell? ⟨iJ,4,none⟩=some (.int .u8 dQ):=cz cK.out 4 rfl;have Ah5:NZ.cell? ⟨iJ,5,none⟩=some (.int .u16 dU):=cz cK.out 5 rfl;have Ah6:NZ.cell? ⟨iJ,6,none⟩=some (.int .u16 dZ):=cz cK.out 6 rfl;have Ah7:NZ.cell? ⟨iJ,7,none⟩=some (.int .u16 ee):=cz cK.out 7 rfl;have Ah8:NZ.cell? ⟨iJ,8,none⟩=some (.slice jw bN.length jx):=cz cK.out 8 rfl;have Ah9:NZ.cell? ⟨iJ,9,none⟩=some (.slice jy cJ.length jz):=cz cK.out 9 rfl;have Aid:=ae cK.out 0;have Aie:=ae cK.out 1;have Aif:=ae cK.out 2;have Aig:=ae cK.out 3;have Aih:=ae cK.out 4;have Aii:=ae cK.out 5;have Aij:=ae cK.out 6;have Aik:=ae cK.out 7;have Ail:=ae cK.out 8;have Aim:=ae cK.out 9;obtain ⟨AA,zL,Eo⟩:=Kd.da MG.out;subst Eo)|((with_reducible refine aA (N:=107) rfl ?_);(try (refine eN (by rfl) ?_;dsimp only));refine Kd.AcW (Kd.slice 5 (Kd.int .u8)) _ 23 ?hg (N':=107) ?hd (xs:=([QF,bN,cJ]:List (List Int))) (inner:=[.slice AA QF.length zL,.slice jw bN.length jx,.slice jy cJ.length jz]) (ok:=(fun k_=>((pg k_ \/ pq k_) \/ w.heap.size<=k_) /\ some k_≠(.slice zJ jD.length yc:Value).ownBlock /\ some k_≠(.slice yf uA.length yg:Value).ownBlock /\ k_≠iJ)) (rq:=(fun k_=>((pg k_ \/ pq k_) \/ w.heap.size<=k_) /\ some k_≠(.slice zJ jD.length yc:Value).ownBlock /\ some k_≠(.slice yf uA.length yg:Value).ownBlock /\ k_≠iJ)) ?hr ?hp (fun _ hk=>hk) ((show ∀ k_,NZ.heap.size<=k_ ->(fun k_=>((pg k_ \/ pq k_) \/ w.heap.size<=k_) /\ some k_≠(.slice zJ jD.length yc:Value).ownBlock /\ some k_≠(.slice yf uA.length yg:Value).ownBlock /\ k_≠iJ) k_ from fun k_ hk=>⟨(.inr (Nat.le_trans (af (bz HB)) hk)),Kd.mN (Kd.oL (Kd.rz nE)) k_ hk,Kd.mN (Kd.oL (Kd.rz tA)) k_ hk,Kd.Yz (g:=iJ) (o:= .cells #[.int .u16 aV,.int .u16 bh,.int .u32 bp,.int .u32 bw,.int .u8 dQ,.int .u16 dU,.int .u16 dZ,.int .u16 ee,.slice jw bN.length jx,.slice jy cJ.length jz] 137 (0,0)) (kz cK) k_ hk⟩) _ (Nat.le_refl _)) (Below.refl _ _) (Nat.le_refl _) (by simp) ?_;(case hd=>rfl);(case hg=>rfl);(case hr=>first|(go_simp;done)|(go_simp;rfl));(case hp=>exact (cI.one (show Kd.FK (Kd.slice 5 (Kd.int .u8)) _ _ QF [.slice AA QF.length zL] from (Kd.wM (Kd.av (Kd.dm (ok':=(fun k_=>((pg k_ \/ pq k_) \/ w.heap.size<=k_) /\ some k_≠(.slice zJ jD.length yc:Value).ownBlock /\ some k_≠(.slice yf uA.length yg:Value).ownBlock /\ k_≠iJ)) (Kd.mL (Kd.Hs (MG.out) (Kd.rS nE.out) (by decide)) cK.out (by decide)) (fun k_ hk=>⟨(.inr (hk.1.1.1)),⟨hk.1.2,⟨hk.1.1.2,hk.2⟩⟩⟩))).2.1 (Kd.R_F (Kd.dm (ok':=(fun k_=>((pg k_ \/ pq k_) \/ w.heap.size<=k_) /\ some k_≠(.slice zJ jD.length yc:Value).ownBlock /\ some k_≠(.slice yf uA.length yg:Value).ownBlock /\ k_≠iJ)) (Kd.mL (Kd.Hs (MG.out) (Kd.rS nE.out) (by decide)) cK.out (by decide)) (fun k_ hk=>⟨(.inr (hk.1.1.1)),⟨hk.1.2,⟨hk.1.1.2,hk.2⟩⟩⟩))))) (cI.one (show Kd.FK (Kd.slice 5 (Kd.int .u8)) _ _ bN [.slice jw bN.length jx] from (Kd.wM (Kd.HT (Kd.pN (ok':=(fun k_=>((pg k_ \/ pq k_) \/ w.heap.size<=k_) /\ some k_≠(.slice zJ jD.length yc:Value).ownBlock /\ some k_≠(.slice yf uA.length yg:Value).ownBlock /\ k_≠iJ)) (fz.out) (fun k_ hk=>⟨hk.1.1,⟨hk.1.2.1,⟨hk.1.2.2.1,hk.1.2.2.2⟩⟩⟩))).2.1 (Kd.V_F (Kd.pN (ok':=(fun k_=>((pg k_ \/ pq k_) \/ w.heap.size<=k_) /\ some k_≠(.slice zJ jD.length yc:Value).ownBlock /\ some k_≠(.slice yf uA.length yg:Value).ownBlock /\ k_≠iJ)) (fz.out) (fun k_ hk=>⟨hk.1.1,⟨hk.1.2.1,⟨hk.1.2.2.1,hk.1.2.2.2⟩⟩⟩))))) (cI.one (show Kd.FK (Kd.slice 5 (Kd.int .u8)) _ _ cJ [.slice jy cJ.length jz] from (Kd.wM (Kd.HT (Kd.pN (ok':=(fun k_=>((pg k_ \/ pq k_) \/ w.heap.size<=k_) /\ some k_≠(.slice zJ jD.length yc:Value).ownBlock /\ some k_≠(.slice yf uA.length yg:Value).ownBlock /\ k_≠iJ)) (fA.out) (fun k_ hk=>⟨hk.1.1,⟨hk.1.2.1,⟨hk.1.2.2.1,hk.1.2.2.2⟩⟩⟩))).2.1 (Kd.V_F (Kd.pN (ok':=(fun k_=>((pg k_ \/ pq k_) \/ w.heap.size<=k_) /\ some k_≠(.slice zJ jD.length yc:Value).ownBlock /\ some k_≠(.slice yf uA.length yg:Value).ownBlock /\ k_≠iJ)) (fA.out) (fun k_ hk=>⟨hk.1.1,⟨hk.1.2.1,⟨hk.1.2.2.1,hk.1.2.2.2⟩⟩⟩))))) (cI.none _ _)))));intro Atg Lc Ld hb gJ iM;clear gJ iM;(first|rw [<- WV.out] at Ld|(simp only [Int.reduceToNat] at Ld;rw [<- WV.out] at Ld));have aJ:=aa.mk (Kd.fU (Kd.rz nE) hb);have aQ:=aa.mk (Kd.mW (by (with_reducible repeat (first|apply Kd.iH|apply Kd.iI|apply Kd.jS));exact fz.out) (Kd.Pz Ld) hb);have bt:=aa.mk (Kd.mW (by (with_reducible repeat (first|apply Kd.iH|apply Kd.iI|apply Kd.jS));exact fA.out) (Kd.Pz Ld) hb);have cr:=aa.mk (Kd.fU (Kd.rz tA) hb);have uz:=aa.mk (Kd.Tz Ld (af (bz HB)));have yw:=aa.mk (bn (kz cK) hb);have Bh:=aa.mk (aq (bz HB) hb);clear nE;clear fz;clear fA;clear tA;clear cK;clear HB;clear MG;have nE:=aJ;have fz:=aQ;have fA:=bt;have tA:=cr;have ES:=uz;have cK:=yw;have HB:=Bh;clear aJ aQ bt cr uz yw Bh;clear hb Ld;obtain ⟨Amp,Amq,Amr⟩:=Kd.TC ES.out;subst Amr)|((with_reducible refine ay (f:=127) rfl ?_);refine gL 108 Try.func127 #[.slice Amp Aez.length Amq] ?_;(with_reducible refine (aZ.calls k2 _ _ Aez NX _ ?aG ?aH A26.out).mono ?_);(case aG=>repeat (first|exact (Kd.HJ ES.out).2.2|(with_reducible refine Kd.fD ?_ _)|(with_reducible refine Kd.fj ?_ _)|(with_reducible refine Kd.gP ?_)));(case aH=>exact (Kd.HJ ES.out).2.1);rintro e w37 ⟨Ath,rfl,gE,hb⟩;refine ⟨_,rfl, ?_⟩;have aJ:=aa.mk (Kd.fU (Kd.rz nE) hb);have aQ:=aa.mk (Kd.mW (by (with_reducible repeat (first|apply Kd.iH|apply Kd.iI|apply Kd.jS));exact fz.out) (Kd.kf gE) hb);have bt:=aa.mk (Kd.mW (by (with_reducible repeat (first|apply Kd.iH|apply Kd.iI|apply Kd.jS));exact fA.out) (Kd.kf gE) hb);have cr:=aa.mk (Kd.mU (Kd.rz tA) (Kd.kf gE) hb);have uz:=aa.mk (Kd.PA (by (with_reducible repeat (first|apply Kd.TA|apply Kd.TB|apply Kd.YI));exact ES.out) (Kd.kf gE) hb);have yw:=aa.mk (Kd.bP (Kd.ry (Kd.yD (M:=fun k_=>(w.heap.size<=k_)) gE (af (bz HB)) (fun k_ h_=>h_)) (Kd.oL (Kd.rz tA))) (af (bz HB)));have Bh:=aa.mk (bn (kz cK) hb);have n7_:=aa.mk (aq (bz HB) hb);clear nE;clear fz;clear fA;clear tA;clear ES;clear cK;clear HB;have nE:=aJ;have fz:=aQ;have fA:=bt;have tA:=cr;have ES:=uz;have AeB:=yw;have cK:=Bh;have HB:=n7_;clear aJ aQ bt cr uz yw Bh n7_;(try clear hb);(try clear hb2);(try clear hk);(try clear hi);(try clear gE)))
         go_ret2
         exact ⟨_,by first|rfl|(simp [aj,ak]<;>rfl)|(simp [*,aj,ak]<;>rfl),by (with_reducible repeat (first|apply Kd.eX|apply Kd.eT|apply Kd.eY));exact Kd.dm AeB.out (fun _ hk=>hk.1.1),bz HB⟩
        ·rw [ax MF] at H
         cases H
def lG.f (k:Nat) (a0:Int) (a1:Int) (cT:Int) (cU:Int) (cY:Int) (ik:Int) (iq:Int) (iu:Int) (jo:Int) (iv:Int) (gz:List Int) (gA:List Int):Option (Int×Bool):=(eP.f k cT cU cY ik iq iu jo iv gz gA).bind fun CZ=>((kn.f k a0 a1 6 (CZ.1.length:Int)).bind fun Le=>((gF.f k Le CZ.1).bind fun Lf=>((eB.f k Lf).bind fun QK=>(some (QK,(CZ.2==0))))))
theorem lG.calls (k:Nat) (a0:Int) (a1:Int) (cT:Int) (cU:Int) (cY:Int) (ik:Int) (iq:Int) (iu:Int) (jo:Int) (iv:Int) (kA:Option Addr) (kB:Nat) (gz:List Int) (kC:Option Addr) (kD:Nat) (gA:List Int) (r1:Int) (r2:Bool) (w:World) (tB:Kd.C (Kd.int .u8) w kA gz.length gz) (tC:gz.length<=kB) (tD:Kd.C (Kd.int .u8) w kC gA.length gA) (tE:gA.length<=kD) (h:lG.f k a0 a1 cT cU cY ik iq iu jo iv gz gA=some (r1,r2)):
  Calls Try.prog 126 #[.int .u32 a0,.int .u32 a1,.agg #[.int .u16 cT,.int .u16 cU,.int .u32 cY,.int .u32 ik,.int .u8 iq,.int .u16 iu,.int .u16 jo,.int .u16 iv,.slice kA gz.length kB,.slice kC gA.length kD]] w fun e w'=>e= .returned (.tuple #[.int .u16 r1,.bool r2]) /\ Below w.heap.size w w':=by
 have qU:=Try.underlying137;have uB:=aa.mk tB;have uC:=aa.mk tC;clear tB tC;have uD:=aa.mk tD;have uE:=aa.mk tE;clear tD tE;have HB:=gj w;have H:((eP.f k cT cU cY ik iq iu jo iv gz gA).bind fun CZ=>((kn.f k a0 a1 6 (CZ.1.length:Int)).bind fun Le=>((gF.f k Le CZ.1).bind fun Lf=>((eB.f k Lf).bind fun QK=>(some (QK,(CZ.2==0)))))))=some (r1,r2):=h;clear h;replace H:=cZ H;obtain ⟨⟨QL,Amt⟩,qA,H⟩:=H
 (try dsimp -simprocs only at H)
 have A4:=aa.mk qA;clear qA;replace H:=cZ H;obtain ⟨Le,CM,H⟩:=H
 (try dsimp -simprocs only at H)
 have A5:=aa.mk CM;clear CM;replace H:=cZ H;obtain ⟨Lf,wq,H⟩:=H
 (try dsimp -simprocs only at H)
 have A6:=aa.mk wq;clear wq;replace H:=cZ H;obtain ⟨QK,Bc,H⟩:=H
 (try dsimp -simprocs only at H)
 have A7:=aa.mk Bc;clear Bc;simp only [Option.some.injEq,Prod.mk.injEq] at H
 obtain ⟨rfl,rfl⟩:=H
 go_enter Try.func126,Try.ntmps126
 go_wp2_with (first|((with_reducible refine aA (N:=5) rfl ?_);refine aC ?hg (N:=5) ?hd (cs:= #[.int .u16 cT,.int .u16 cU,.int .u32 cY,.int .u32 ik,.int .u8 iq,.int .u16 iu,.int .u16 jo,.int .u16 iv,.slice kA gz.length kB,.slice kC gA.length kD]) (t:=137) ?hr ?_;(case hd=>rfl);(case hg=>rfl);(case hr=>first|(go_simp;done)|(go_simp;rfl));intro wv hg w8 bK hb;have aJ:=aa.mk (aq (bz HB) hb);have aQ:=aa.mk (bK);have bt:=aa.mk ((by rw [hg];exact (af (bz HB)):w.heap.size<=wv));have cr:=aa.mk ((by rw [hg];exact (af (bz HB)):w.heap.size<=wv));clear HB;have HB:=aJ;have mK:=aQ;have Aqf:=bt;have Aqg:=cr;clear aJ aQ bt cr;clear hb bK hg;have CO:w8.cell? ⟨wv,0,none⟩=some (.int .u16 cT):=cz mK.out 0 rfl;have CP:w8.cell? ⟨wv,1,none⟩=some (.int .u16 cU):=cz mK.out 1 rfl;have CQ:w8.cell? ⟨wv,2,none⟩=some (.int .u32 cY):=cz mK.out 2 rfl;have CR:w8.cell? ⟨wv,3,none⟩=some (.int .u32 ik):=cz mK.out 3 rfl;have Gl:w8.cell? ⟨wv,4,none⟩=some (.int .u8 iq):=cz mK.out 4 rfl;have Aab:w8.cell? ⟨wv,5,none⟩=some (.int .u16 iu):=cz mK.out 5 rfl;have Aac:w8.cell? ⟨wv,6,none⟩=some (.int .u16 jo):=cz mK.out 6 rfl;have Aad:w8.cell? ⟨wv,7,none⟩=some (.int .u16 iv):=cz mK.out 7 rfl;have Aae:w8.cell? ⟨wv,8,none⟩=some (.slice kA gz.length kB):=cz mK.out 8 rfl;have Aaf:w8.cell? ⟨wv,9,none⟩=some (.slice kC gA.length kD):=cz mK.out 9 rfl;have CS:=ae mK.out 0;have CT:=ae mK.out 1;have CU:=ae mK.out 2;have CV:=ae mK.out 3;have Gm:=ae mK.out 4;have Aag:=ae mK.out 5;have Aah:=ae mK.out 6;have Aai:=ae mK.out 7;have Aaj:=ae mK.out 8;have Aak:=ae mK.out 9)|((with_reducible refine ay (f:=110) rfl ?_);refine gL 12 Try.func110 #[.agg #[.int .u16 cT,.int .u16 cU,.int .u32 cY,.int .u32 ik,.int .u8 iq,.int .u16 iu,.int .u16 jo,.int .u16 iv,.slice kA gz.length kB,.slice kC gA.length kD]] ?_;(with_reducible refine (eP.calls k cT cU cY ik iq iu jo iv (fun k_=>k_<w.heap.size) _ _ gz (fun k_=>k_<w.heap.size) _ _ gA QL Amt _ ?aG ?aH A4.out).mono ?_);(case aG=>exact Kd.TD uC.out (Kd.xB (Kd.C_F (Kd.Hy .u8) uB.out) (bz HB)));(case aH=>exact Kd.TD uE.out (Kd.xB (Kd.C_F (Kd.Hy .u8) uD.out) (bz HB)));rintro e j4 ⟨Ati,rfl,gE,hb⟩;refine ⟨_,rfl, ?_⟩;have aJ:=aa.mk (Kd.bP (Kd.dm (ok':=fun k_=>True) gE (fun _ ql=>trivial)) (af (bz HB)));have aQ:=aa.mk (bn (kz mK) hb);have bt:=aa.mk (aq (bz HB) hb);clear mK;clear HB;have EU:=aJ;have mK:=aQ;have HB:=bt;clear aJ aQ bt;(try clear hb);(try clear hb2);(try clear hk);(try clear hi);(try clear gE);obtain ⟨Z3,Z4,Z5⟩:=Kd.da EU.out;subst Z5)|((with_reducible refine ay (f:=121) rfl ?_);refine gL 19 Try.func121 #[.int .u32 a0,.int .u32 a1,.int .u8 6,.int .i64 (QL.length:Int)] ?_;(with_reducible refine (kn.calls k a0 a1 6 (QL.length:Int) Le _ A5.out).mono ?_);rintro e w' ⟨rfl,⟨nd,rfl⟩⟩;refine ⟨_,rfl, ?_⟩)|((with_reducible refine ay (f:=116) rfl ?_);refine gL 21 Try.func116 #[.int .u32 Le,.slice Z3 QL.length Z4] ?_;(with_reducible refine (gF.calls k Le _ _ QL Lf _ ?aG ?aH A6.out).mono ?_);(case aG=>repeat (first|exact (Kd.av EU.out).2.2|(with_reducible refine Kd.fD ?_ _)|(with_reducible refine Kd.fj ?_ _)|(with_reducible refine Kd.gP ?_)));(case aH=>exact (Kd.av EU.out).2.1);rintro e l5 ⟨rfl,hb⟩;refine ⟨_,rfl, ?_⟩;have aJ:=aa.mk (Kd.fU (Kd.rz EU) hb);have aQ:=aa.mk (bn (kz mK) hb);have bt:=aa.mk (aq (bz HB) hb);clear EU;clear mK;clear HB;have EU:=aJ;have mK:=aQ;have HB:=bt;clear aJ aQ bt;(try clear hb);(try clear hb2);(try clear hk);(try clear hi))|((with_reducible refine ay (f:=115) rfl ?_);refine gL 22 Try.func115 #[.int .u32 Lf] ?_;(with_reducible refine (eB.calls k Lf QK _ A7.out).mono ?_);rintro e w' ⟨rfl,⟨nd,rfl⟩⟩;refine ⟨_,rfl, ?_⟩))
 go_ret2
 exact ⟨by first|rfl|(simp [aj,ak]<;>rfl)|(simp [*,aj,ak]<;>rfl),bz HB⟩
def pE.f (k:Nat) (a0:Int) (a1:Int) (cT:Int) (cU:Int) (cY:Int) (ik:Int) (iq:Int) (iu:Int) (jo:Int) (iv:Int) (gz:List Int) (gA:List Int):Option (Bool):=(lG.f k a0 a1 cT cU cY ik iq iu jo iv gz gA).bind fun IX=>(if IX.2=true then (some (IX.1==65535)) else (some false))
theorem pE.calls (k:Nat) (a0:Int) (a1:Int) (cT:Int) (cU:Int) (cY:Int) (ik:Int) (iq:Int) (iu:Int) (jo:Int) (iv:Int) (kA:Option Addr) (kB:Nat) (gz:List Int) (kC:Option Addr) (kD:Nat) (gA:List Int) (r:Bool) (w:World) (tB:Kd.C (Kd.int .u8) w kA gz.length gz) (tC:gz.length<=kB) (tD:Kd.C (Kd.int .u8) w kC gA.length gA) (tE:gA.length<=kD) (h:pE.f k a0 a1 cT cU cY ik iq iu jo iv gz gA=some r):
  Calls Try.prog 159 #[.int .u32 a0,.int .u32 a1,.agg #[.int .u16 cT,.int .u16 cU,.int .u32 cY,.int .u32 ik,.int .u8 iq,.int .u16 iu,.int .u16 jo,.int .u16 iv,.slice kA gz.length kB,.slice kC gA.length kD]] w fun e w'=>e= .returned (.bool r) /\ Below w.heap.size w w':=by
 have qU:=Try.underlying137;have uB:=aa.mk tB;have uC:=aa.mk tC;clear tB tC;have uD:=aa.mk tD;have uE:=aa.mk tE;clear tD tE;have HB:=gj w;have H:((lG.f k a0 a1 cT cU cY ik iq iu jo iv gz gA).bind fun IX=>(if IX.2=true then (some (IX.1==65535)) else (some false)))=some r:=h;clear h;replace H:=cZ H;obtain ⟨⟨Aaq,Amu⟩,qA,H⟩:=H
 (try dsimp -simprocs only at H)
 have A4:=aa.mk qA;clear qA
 by_cases c5:Amu=true
 ·subst c5
  have H1:(some (Aaq==65535))=some r:=by rw [au rfl] at H;exact H
  clear H;have H:=H1;clear H1;obtain rfl:=cS H
  go_enter Try.func159,Try.ntmps159
  go_wp2_with (first|((with_reducible refine aA (N:=5) rfl ?_);refine aC ?hg (N:=5) ?hd (cs:= #[.int .u16 cT,.int .u16 cU,.int .u32 cY,.int .u32 ik,.int .u8 iq,.int .u16 iu,.int .u16 jo,.int .u16 iv,.slice kA gz.length kB,.slice kC gA.length kD]) (t:=137) ?hr ?_;(case hd=>rfl);(case hg=>rfl);(case hr=>first|(go_simp;done)|(go_simp;rfl));intro m9 hg w6 bK hb;have aJ:=aa.mk (aq (bz HB) hb);have aQ:=aa.mk (bK);have bt:=aa.mk ((by rw [hg];exact (af (bz HB)):w.heap.size<=m9));have cr:=aa.mk ((by rw [hg];exact (af (bz HB)):w.heap.size<=m9));clear HB;have HB:=aJ;have iy:=aQ;have AeC:=bt;have AeD:=cr;clear aJ aQ bt cr;clear hb bK hg;have tW:w6.cell? ⟨m9,0,none⟩=some (.int .u16 cT):=cz iy.out 0 rfl;have tX:w6.cell? ⟨m9,1,none⟩=some (.int .u16 cU):=cz iy.out 1 rfl;have tY:w6.cell? ⟨m9,2,none⟩=some (.int .u32 cY):=cz iy.out 2 rfl;have tZ:w6.cell? ⟨m9,3,none⟩=some (.int .u32 ik):=cz iy.out 3 rfl;have uX:w6.cell? ⟨m9,4,none⟩=some (.int .u8 iq):=cz iy.out 4 rfl;have KQ:w6.cell? ⟨m9,5,none⟩=some (.int .u16 iu):=cz iy.out 5 rfl;have KR:w6.cell? ⟨m9,6,none⟩=some (.int .u16 jo):=cz iy.out 6 rfl;have KS:w6.cell? ⟨m9,7,none⟩=some (.int .u16 iv):=cz iy.out 7 rfl;have KT:w6.cell? ⟨m9,8,none⟩=some (.slice kA gz.length kB):=cz iy.out 8 rfl;have KU:w6.cell? ⟨m9,9,none⟩=some (.slice kC gA.length kD):=cz iy.out 9 rfl;have ua:=ae iy.out 0;have uf:=ae iy.out 1;have ug:=ae iy.out 2;have uh:=ae iy.out 3;have uY:=ae iy.out 4;have KV:=ae iy.out 5;have KW:=ae iy.out 6;have KX:=ae iy.out 7;have KY:=ae iy.out 8;have KZ:=ae iy.out 9)|((with_reducible refine ay (f:=126) rfl ?_);refine gL 13 Try.func126 #[.int .u32 a0,.int .u32 a1,.agg #[.int .u16 cT,.int .u16 cU,.int .u32 cY,.int .u32 ik,.int .u8 iq,.int .u16 iu,.int .u16 jo,.int .u16 iv,.slice kA gz.length kB,.slice kC gA.length kD]] ?_;(with_reducible refine (lG.calls k a0 a1 cT cU cY ik iq iu jo iv _ _ gz _ _ gA Aaq true _ ?aG ?aH ?qW ?qX A4.out).mono ?_);(case aG=>exact Kd.aU uB.out (bz HB));(case aH=>exact uC.out);(case qW=>exact Kd.aU uD.out (bz HB));(case qX=>exact uE.out);rintro e w8 ⟨rfl,hb⟩;refine ⟨_,rfl, ?_⟩;have aJ:=aa.mk (bn (kz iy) hb);have aQ:=aa.mk (aq (bz HB) hb);clear iy;clear HB;have iy:=aJ;have HB:=aQ;clear aJ aQ;(try clear hb);(try clear hb2);(try clear hk);(try clear hi)))
  go_ret
  exact ⟨by first|rfl|(simp [aj,ak]<;>rfl)|(simp [*,aj,ak]<;>rfl),bz HB⟩
 ·replace c5:=xP c5
  subst c5;have H1:(some false)=some r:=by rw [ax (show ¬ (false=true) by decide)] at H;exact H
  clear H;have H:=H1;clear H1;obtain rfl:=cS H
  go_enter Try.func159,Try.ntmps159
  go_wp2_with (first|((with_reducible refine aA (N:=5) rfl ?_);refine aC ?hg (N:=5) ?hd (cs:= #[.int .u16 cT,.int .u16 cU,.int .u32 cY,.int .u32 ik,.int .u8 iq,.int .u16 iu,.int .u16 jo,.int .u16 iv,.slice kA gz.length kB,.slice kC gA.length kD]) (t:=137) ?hr ?_;(case hd=>rfl);(case hg=>rfl);(case hr=>first|(go_simp;done)|(go_simp;rfl));intro m9 hg w9 bK hb;have aJ:=aa.mk (aq (bz HB) hb);have aQ:=aa.mk (bK);have bt:=aa.mk ((by rw [hg];exact (af (bz HB)):w.heap.size<=m9));have cr:=aa.mk ((by rw [hg];exact (af (bz HB)):w.heap.size<=m9));clear HB;have HB:=aJ;have iy:=aQ;have AeC:=bt;have AeD:=cr;clear aJ aQ bt cr;clear hb bK hg;have rT:w9.cell? ⟨m9,0,none⟩=some (.int .u16 cT):=cz iy.out 0 rfl;have rU:w9.cell? ⟨m9,1,none⟩=some (.int .u16 cU):=cz iy.out 1 rfl;have rV:w9.cell? ⟨m9,2,none⟩=some (.int .u32 cY):=cz iy.out 2 rfl;have rW:w9.cell? ⟨m9,3,none⟩=some (.int .u32 ik):=cz iy.out 3 rfl;have xF:w9.cell? ⟨m9,4,none⟩=some (.int .u8 iq):=cz iy.out 4 rfl;have zz:w9.cell? ⟨m9,5,none⟩=some (.int .u16 iu):=cz iy.out 5 rfl;have zA:w9.cell? ⟨m9,6,none⟩=some (.int .u16 jo):=cz iy.out 6 rfl;have zB:w9.cell? ⟨m9,7,none⟩=some (.int .u16 iv):=cz iy.out 7 rfl;have zC:w9.cell? ⟨m9,8,none⟩=some (.slice kA gz.length kB):=cz iy.out 8 rfl;have zD:w9.cell? ⟨m9,9,none⟩=some (.slice kC gA.length kD):=cz iy.out 9 rfl;have rX:=ae iy.out 0;have rY:=ae iy.out 1;have rZ:=ae iy.out 2;have sg:=ae iy.out 3;have xG:=ae iy.out 4;have zE:=ae iy.out 5;have zF:=ae iy.out 6;have zG:=ae iy.out 7;have zH:=ae iy.out 8;have zI:=ae iy.out 9)|((with_reducible refine ay (f:=126) rfl ?_);refine gL 13 Try.func126 #[.int .u32 a0,.int .u32 a1,.agg #[.int .u16 cT,.int .u16 cU,.int .u32 cY,.int .u32 ik,.int .u8 iq,.int .u16 iu,.int .u16 jo,.int .u16 iv,.slice kA gz.length kB,.slice kC gA.length kD]] ?_;(with_reducible refine (lG.calls k a0 a1 cT cU cY ik iq iu jo iv _ _ gz _ _ gA Aaq false _ ?aG ?aH ?qW ?qX A4.out).mono ?_);(case aG=>exact Kd.aU uB.out (bz HB));(case aH=>exact uC.out);(case qW=>exact Kd.aU uD.out (bz HB));(case qX=>exact uE.out);rintro e qf ⟨rfl,hb⟩;refine ⟨_,rfl, ?_⟩;have aJ:=aa.mk (bn (kz iy) hb);have aQ:=aa.mk (aq (bz HB) hb);clear iy;clear HB;have iy:=aJ;have HB:=aQ;clear aJ aQ;(try clear hb);(try clear hb2);(try clear hk);(try clear hi)))
  go_ret
  exact ⟨by first|rfl|(simp [aj,ak]<;>rfl)|(simp [*,aj,ak]<;>rfl),bz HB⟩
attribute [local go_sem] dF dG eG eH cQ cR dH dI
def kW.f (k:Nat) (aV:Int) (bh:Int) (bp:Int) (bw:Int) (dQ:Int) (dU:Int) (dZ:Int) (ee:Int) (bN:List Int) (cJ:List Int) (xU:Int) (xV:Int) (xW:Int) (xX:Int) (xY:Int) (xZ:Int) (sj:Int) (sn:Int) (rG:List Int) (rH:List Int):Option (Bool):=(pE.f k sj sn aV bh bp bw dQ dU dZ ee bN cJ).bind fun N9=>(some N9)
theorem kW.calls (k:Nat) (aV:Int) (bh:Int) (bp:Int) (bw:Int) (dQ:Int) (dU:Int) (dZ:Int) (ee:Int) (jw:Option Addr) (jx:Nat) (bN:List Int) (jy:Option Addr) (jz:Nat) (cJ:List Int) (xU:Int) (xV:Int) (xW:Int) (xX:Int) (xY:Int) (xZ:Int) (sj:Int) (sn:Int) (Al:Option Addr) (Ap:Nat) (rG:List Int) (Ar:Option Addr) (Au:Nat) (rH:List Int) (r:Bool) (w:World) (tF:Kd.C (Kd.int .u8) w jw bN.length bN) (tG:bN.length<=jx) (tH:Kd.C (Kd.int .u8) w jy cJ.length cJ) (tI:cJ.length<=jz) (Bd:Kd.C (Kd.int .u8) w Al rG.length rG) (Be:rG.length<=Ap) (Bf:Kd.C (Kd.int .u8) w Ar rH.length rH) (Bg:rH.length<=Au) (h:kW.f k aV bh bp bw dQ dU dZ ee bN cJ xU xV xW xX xY xZ sj sn rG rH=some r):
  Calls Try.prog 158 #[.agg #[.int .u16 aV,.int .u16 bh,.int .u32 bp,.int .u32 bw,.int .u8 dQ,.int .u16 dU,.int .u16 dZ,.int .u16 ee,.slice jw bN.length jx,.slice jy cJ.length jz],.agg #[.int .u8 xU,.int .u8 xV,.int .u8 xW,.int .u16 xX,.int .u8 xY,.int .u16 xZ,.int .u32 sj,.int .u32 sn,.slice Al rG.length Ap,.slice Ar rH.length Au]] w fun e w'=>e= .returned (.bool r) /\ Below w.heap.size w w':=by
 have C0:=Try.underlying181;have jb:=Try.underlying73;have qU:=Try.underlying137;have Bi:=aa.mk tF;have IY:=aa.mk tG;clear tF tG;have Bj:=aa.mk tH;have IZ:=aa.mk tI;clear tH tI;have WH:=aa.mk Bd;have WI:=aa.mk Be;clear Bd Be;have WJ:=aa.mk Bf;have WK:=aa.mk Bg;clear Bf Bg;have HB:=gj w;have H:((pE.f k sj sn aV bh bp bw dQ dU dZ ee bN cJ).bind fun N9=>(some N9))=some r:=h;clear h;replace H:=cZ H;obtain ⟨N9,wE,H⟩:=H;replace H:(some N9)=some r:=H;have A3:=aa.mk wE;clear wE;obtain rfl:=cS H
 go_enter Try.func158,Try.ntmps158
 go_wp2_with (first|((with_reducible refine aA (N:=2) rfl ?_);refine aC ?hg (N:=2) ?hd (cs:= #[.int .u16 aV,.int .u16 bh,.int .u32 bp,.int .u32 bw,.int .u8 dQ,.int .u16 dU,.int .u16 dZ,.int .u16 ee,.slice jw bN.length jx,.slice jy cJ.length jz]) (t:=181) ?hr ?_;(case hd=>rfl);(case hg=>rfl);(case hr=>first|(go_simp;done)|(go_simp;rfl));intro rO hg w4 bK hb;have aJ:=aa.mk (aq (bz HB) hb);have aQ:=aa.mk (bK);have bt:=aa.mk ((by rw [hg];exact (af (bz HB)):w.heap.size<=rO));have cr:=aa.mk ((by rw [hg];exact (af (bz HB)):w.heap.size<=rO));clear HB;have HB:=aJ;have mg:=aQ;have Aqh:=bt;have Aqi:=cr;clear aJ aQ bt cr;clear hb bK hg)|((with_reducible refine aA (N:=3) rfl ?_);refine aC ?hg (N:=3) ?hd (cs:= #[.int .u8 xU,.int .u8 xV,.int .u8 xW,.int .u16 xX,.int .u8 xY,.int .u16 xZ,.int .u32 sj,.int .u32 sn,.slice Al rG.length Ap,.slice Ar rH.length Au]) (t:=73) ?hr ?_;(case hd=>rfl);(case hg=>rfl);(case hr=>first|(go_simp;done)|(go_simp;rfl));intro tJ hg w5 bK hb;have aJ:=aa.mk (bn (kz mg) hb);have aQ:=aa.mk (aq (bz HB) hb);have bt:=aa.mk (bK);have cr:=aa.mk ((by rw [hg];exact (af (bz HB)):w.heap.size<=tJ));have uz:=aa.mk ((by rw [hg];exact (af (bz HB)):w.heap.size<=tJ));have yw:=aa.mk ((by rw [hg];exact Nat.ne_of_lt (mm (g:=rO) (o:= .cells #[.int .u16 aV,.int .u16 bh,.int .u32 bp,.int .u32 bw,.int .u8 dQ,.int .u16 dU,.int .u16 dZ,.int .u16 ee,.slice jw bN.length jx,.slice jy cJ.length jz] 181 (0,0)) (kz mg)):rO≠tJ));have Bh:=aa.mk ((by rw [hg];exact Nat.ne_of_gt (mm (g:=rO) (o:= .cells #[.int .u16 aV,.int .u16 bh,.int .u32 bp,.int .u32 bw,.int .u8 dQ,.int .u16 dU,.int .u16 dZ,.int .u16 ee,.slice jw bN.length jx,.slice jy cJ.length jz] 181 (0,0)) (kz mg)):tJ≠rO));clear mg;clear HB;have mg:=aJ;have HB:=aQ;have nF:=bt;have Aqj:=cr;have Aqk:=uz;have Oa:=yw;have Ob:=Bh;clear aJ aQ bt cr uz yw Bh;clear hb bK hg;have Aen:=Ob.out;have Aeo:=Oa.out;have tW:w5.cell? ⟨tJ,0,none⟩=some (.int .u8 xU):=cz nF.out 0 rfl;have tX:w5.cell? ⟨tJ,1,none⟩=some (.int .u8 xV):=cz nF.out 1 rfl;have tY:w5.cell? ⟨tJ,2,none⟩=some (.int .u8 xW):=cz nF.out 2 rfl;have tZ:w5.cell? ⟨tJ,3,none⟩=some (.int .u16 xX):=cz nF.out 3 rfl;have uX:w5.cell? ⟨tJ,4,none⟩=some (.int .u8 xY):=cz nF.out 4 rfl;have KQ:w5.cell? ⟨tJ,5,none⟩=some (.int .u16 xZ):=cz nF.out 5 rfl;have KR:w5.cell? ⟨tJ,6,none⟩=some (.int .u32 sj):=cz nF.out 6 rfl;have KS:w5.cell? ⟨tJ,7,none⟩=some (.int .u32 sn):=cz nF.out 7 rfl;have KT:w5.cell? ⟨tJ,8,none⟩=some (.slice Al rG.length Ap):=cz nF.out 8 rfl;have KU:w5.cell? ⟨tJ,9,none⟩=some (.slice Ar rH.length Au):=cz nF.out 9 rfl;have ua:=ae nF.out 0;have uf:=ae nF.out 1;have ug:=ae nF.out 2;have uh:=ae nF.out 3;have uY:=ae nF.out 4;have KV:=ae nF.out 5;have KW:=ae nF.out 6;have KX:=ae nF.out 7;have KY:=ae nF.out 8;have KZ:=ae nF.out 9;have Ga:w5.cell? ⟨rO,0,none⟩=some (.int .u16 aV):=cz mg.out 0 rfl;have Gb:w5.cell? ⟨rO,1,none⟩=some (.int .u16 bh):=cz mg.out 1 rfl;have Gc:w5.cell? ⟨rO,2,none⟩=some (.int .u32 bp):=cz mg.out 2 rfl;have Gd:w5.cell? ⟨rO,3,none⟩=some (.int .u32 bw):=cz mg.out 3 rfl;have Aar:w5.cell? ⟨rO,4,none⟩=some (.int .u8 dQ):=cz mg.out 4 rfl;have Aas:w5.cell? ⟨rO,5,none⟩=some (.int .u16 dU):=cz mg.out 5 rfl;have Aat:w5.cell? ⟨rO,6,none⟩=some (.int .u16 dZ):=cz mg.out 6 rfl;have Aau:w5.cell? ⟨rO,7,none⟩=some (.int .u16 ee):=cz mg.out 7 rfl;have Aav:w5.cell? ⟨rO,8,none⟩=some (.slice jw bN.length jx):=cz mg.out 8 rfl;have Aaw:w5.cell? ⟨rO,9,none⟩=some (.slice jy cJ.length jz):=cz mg.out 9 rfl;have Ge:=ae mg.out 0;have Gf:=ae mg.out 1;have Gg:=ae mg.out 2;have Gh:=ae mg.out 3;have Aax:=ae mg.out 4;have Aay:=ae mg.out 5;have Aaz:=ae mg.out 6;have AaA:=ae mg.out 7;have AaB:=ae mg.out 8;have AaC:=ae mg.out 9)|((with_reducible refine ay (f:=159) rfl ?_);refine gL 11 Try.func159 #[.int .u32 sj,.int .u32 sn,.agg #[.int .u16 aV,.int .u16 bh,.int .u32 bp,.int .u32 bw,.int .u8 dQ,.int .u16 dU,.int .u16 dZ,.int .u16 ee,.slice jw bN.length jx,.slice jy cJ.length jz]] ?_;(with_reducible refine (pE.calls k sj sn aV bh bp bw dQ dU dZ ee _ _ bN _ _ cJ N9 _ ?aG ?aH ?qW ?qX A3.out).mono ?_);(case aG=>exact Kd.aU Bi.out (bz HB));(case aH=>exact IY.out);(case qW=>exact Kd.aU Bj.out (bz HB));(case qX=>exact IZ.out);rintro e w9 ⟨rfl,hb⟩;refine ⟨_,rfl, ?_⟩;have aJ:=aa.mk (bn (kz mg) hb);have aQ:=aa.mk (bn (kz nF) hb);have bt:=aa.mk (aq (bz HB) hb);clear mg;clear nF;clear HB;have mg:=aJ;have nF:=aQ;have HB:=bt;clear aJ aQ bt;(try clear hb);(try clear hb2);(try clear hk);(try clear hi)))
 go_ret
 exact ⟨by first|rfl|(simp [aj,ak]<;>rfl)|(simp [*,aj,ak]<;>rfl),bz HB⟩
attribute [local go_sem] dF dG eG eH cQ cR dH dI
def iF.f (aV:Int) (bh:Int) (bp:Int) (bw:Int) (cA:List Int):Option (List Int×Int):=if (wrap64 (8+(cA.length:Int)))>65515 then (some (([]:List Int),23)) else ((some (([aV,bh,(bp / 256) % 256,(bp) % 256,(bw / 16777216) % 256,(bw / 65536) % 256,(bw / 256) % 256,(bw) % 256]:List Int):List Int)).bind fun C2=>(if C2.length+cA.length<140737488355328 then (some ((C2++cA),0)) else (none)))
theorem iF.calls (aV:Int) (bh:Int) (bp:Int) (bw:Int) (fE:Option Addr) (fF:Nat) (cA:List Int) (r1:List Int) (r2:Int) (w:World) (jU:Kd.C (Kd.int .u8) w fE cA.length cA) (jV:cA.length<=fF) (h:iF.f aV bh bp bw cA=some (r1,r2)):
  Calls Try.prog 112 #[.agg #[.int .u8 aV,.int .u8 bh,.int .u16 bp,.int .u32 bw,.slice fE cA.length fF]] w fun e w'=>∃ o6:Value,e= .returned (.tuple #[o6,.int .i64 r2]) /\ Kd.R (Kd.int .u8) 5 w' w.heap.size (fun _=>True) o6 r1 /\ Below w.heap.size w w':=by
 have ny:=Try.underlying101;have oh:=aa.mk jU;have o7:=aa.mk jV;clear jU jV;have HB:=gj w;have H:(if (wrap64 (8+(cA.length:Int)))>65515 then (some (([]:List Int),23)) else ((some (([aV,bh,(bp / 256) % 256,(bp) % 256,(bw / 16777216) % 256,(bw / 65536) % 256,(bw / 256) % 256,(bw) % 256]:List Int):List Int)).bind fun C2=>(if C2.length+cA.length<140737488355328 then (some ((C2++cA),0)) else (none))))=some (r1,r2):=h;clear h
 by_cases c2:(wrap64 (8+(cA.length:Int)))>65515
 ·rw [au c2] at H
  have kg:decide (65515<(wrap64 (8+(cA.length:Int))))=true:=bS c2;clear c2;simp only [Option.some.injEq,Prod.mk.injEq] at H
  obtain ⟨rfl,rfl⟩:=H
  go_enter Try.func112,Try.ntmps112
  go_wp2_with (first|((with_reducible refine aA (N:=1) rfl ?_);refine aC ?hg (N:=1) ?hd (cs:= #[.int .u8 aV,.int .u8 bh,.int .u16 bp,.int .u32 bw,.slice fE cA.length fF]) (t:=101) ?hr ?_;(case hd=>rfl);(case hg=>rfl);(case hr=>first|(go_simp;done)|(go_simp;rfl));intro pF hg w3 bK hb;have aJ:=aa.mk (aq (bz HB) hb);have aQ:=aa.mk (bK);have bt:=aa.mk ((by rw [hg];exact (af (bz HB)):w.heap.size<=pF));have cr:=aa.mk ((by rw [hg];exact (af (bz HB)):w.heap.size<=pF));clear HB;have HB:=aJ;have jm:=aQ;have AeE:=bt;have AeF:=cr;clear aJ aQ bt cr;clear hb bK hg;have pP:w3.cell? ⟨pF,0,none⟩=some (.int .u8 aV):=cz jm.out 0 rfl;have pQ:w3.cell? ⟨pF,1,none⟩=some (.int .u8 bh):=cz jm.out 1 rfl;have pR:w3.cell? ⟨pF,2,none⟩=some (.int .u16 bp):=cz jm.out 2 rfl;have pS:w3.cell? ⟨pF,3,none⟩=some (.int .u32 bw):=cz jm.out 3 rfl;have tU:w3.cell? ⟨pF,4,none⟩=some (.slice fE cA.length fF):=cz jm.out 4 rfl;have pT:=ae jm.out 0;have pU:=ae jm.out 1;have pV:=ae jm.out 2;have pW:=ae jm.out 3;have tV:=ae jm.out 4))
  go_ret2
  exact ⟨_,by first|rfl|(simp [aj,ak]<;>rfl)|(simp [*,aj,ak]<;>rfl),by first|exact Kd.cl _ _ _ _ _|exact Kd.ju _ _ _ _ _|exact Kd.jv _ _ _ _ _|exact Kd.jr _ _ _ _ _|exact Kd.js _ _ _ _ _,bz HB⟩
 ·rw [ax c2] at H
  have kg:decide (65515<(wrap64 (8+(cA.length:Int))))=false:=gO c2;clear c2;obtain ⟨C2,I0⟩:∃ y_:List Int,y_=(([aV,bh,(bp / 256) % 256,(bp) % 256,(bw / 16777216) % 256,(bw / 65536) % 256,(bw / 256) % 256,(bw) % 256]:List Int)):=⟨_,rfl⟩
  replace H:(if C2.length+cA.length<140737488355328 then (some ((C2++cA),0)) else (none))=some (r1,r2):=by first|(rw [I0];with_reducible exact H)|(have kP:=(bA _ _).symm.trans H;rw [I0];with_reducible exact kP)|(have kP:=(bA _ _).symm.trans H;with_reducible exact kP)|with_reducible exact H|(rw [I0];exact H)|exact H
  have WW:=aa.mk I0;clear I0
  by_cases c5:C2.length+cA.length<140737488355328
  ·rw [au c5] at H
   have Z2:=aa.mk c5;clear c5;obtain ⟨Amv,I1⟩:∃ y_:List Int,y_=(C2++cA):=⟨_,rfl⟩
   replace H:(some (Amv,0))=some (r1,r2):=by first|(rw [I1];with_reducible exact H)|(have kP:=(bA _ _).symm.trans H;rw [I1];with_reducible exact kP)|(have kP:=(bA _ _).symm.trans H;with_reducible exact kP)|with_reducible exact H|(rw [I1];exact H)|exact H
   have AeG:=aa.mk I1;clear I1;simp only [Option.some.injEq,Prod.mk.injEq] at H
   obtain ⟨rfl,rfl⟩:=H
   go_enter Try.func112,Try.ntmps112
   go_wp2_with (first|((with_reducible refine aA (N:=1) rfl ?_);refine aC ?hg (N:=1) ?hd (cs:= #[.int .u8 aV,.int .u8 bh,.int .u16 bp,.int .u32 bw,.slice fE cA.length fF]) (t:=101) ?hr ?_;(case hd=>rfl);(case hg=>rfl);(case hr=>first|(go_simp;done)|(go_simp;rfl));intro pF hg w6 bK hb;have aJ:=aa.mk (aq (bz HB) hb);have aQ:=aa.mk (bK);have bt:=aa.mk ((by rw [hg];exact (af (bz HB)):w.heap.size<=pF));have cr:=aa.mk ((by rw [hg];exact (af (bz HB)):w.heap.size<=pF));clear HB;have HB:=aJ;have jm:=aQ;have AeE:=bt;have AeF:=cr;clear aJ aQ bt cr;clear hb bK hg;have tW:w6.cell? ⟨pF,0,none⟩=some (.int .u8 aV):=cz jm.out 0 rfl;have tX:w6.cell? ⟨pF,1,none⟩=some (.int .u8 bh):=cz jm.out 1 rfl;have tY:w6.cell? ⟨pF,2,none⟩=some (.int .u16 bp):=cz jm.out 2 rfl;have tZ:w6.cell? ⟨pF,3,none⟩=some (.int .u32 bw):=cz jm.out 3 rfl;have uX:w6.cell? ⟨pF,4,none⟩=some (.slice fE cA.length fF):=cz jm.out 4 rfl;have ua:=ae jm.out 0;have uf:=ae jm.out 1;have ug:=ae jm.out 2;have uh:=ae jm.out 3;have uY:=ae jm.out 4)|((with_reducible refine aA (N:=35) rfl ?_);refine Kd.qq (Kd.int .u8) _ 5 ?hg (N:=35) ?hd (xs:=([aV,bh,(bp / 256) % 256,(bp) % 256,(bw / 16777216) % 256,(bw / 65536) % 256,(bw / 256) % 256,(bw) % 256]:List Int)) (inner:=[.int .u8 aV,.int .u8 bh,.int .u8 ((bp / 256) % 256),.int .u8 ((bp) % 256),.int .u8 ((bw / 16777216) % 256),.int .u8 ((bw / 65536) % 256),.int .u8 ((bw / 256) % 256),.int .u8 ((bw) % 256)]) (ok:=fun _=>True) (rq:=fun _=>True) ?hr ?hp (fun _ hk=>hk) trivial (Below.refl _ _) (Nat.le_refl _) (by simp) ?_;(case hd=>rfl);(case hg=>rfl);(case hr=>first|(go_simp;done)|(go_simp;simp only [IntKind.wrap_u8,IntKind.wrap_u16,IntKind.wrap_u32];done)|(go_simp;rfl));(case hp=>exact (cI.one (show Kd.M (Kd.int .u8) _ _ _ aV [.int .u8 aV] from rfl) (cI.one (show Kd.M (Kd.int .u8) _ _ _ bh [.int .u8 bh] from rfl) (cI.one (show Kd.M (Kd.int .u8) _ _ _ ((bp / 256) % 256) [.int .u8 ((bp / 256) % 256)] from rfl) (cI.one (show Kd.M (Kd.int .u8) _ _ _ ((bp) % 256) [.int .u8 ((bp) % 256)] from rfl) (cI.one (show Kd.M (Kd.int .u8) _ _ _ ((bw / 16777216) % 256) [.int .u8 ((bw / 16777216) % 256)] from rfl) (cI.one (show Kd.M (Kd.int .u8) _ _ _ ((bw / 65536) % 256) [.int .u8 ((bw / 65536) % 256)] from rfl) (cI.one (show Kd.M (Kd.int .u8) _ _ _ ((bw / 256) % 256) [.int .u8 ((bw / 256) % 256)] from rfl) (cI.one (show Kd.M (Kd.int .u8) _ _ _ ((bw) % 256) [.int .u8 ((bw) % 256)] from rfl) (cI.none _ _))))))))));intro Amw w8 xR hb gJ iM;clear gJ iM;(first|rw [<- WW.out] at xR|(simp only [Int.reduceToNat] at xR;rw [<- WW.out] at xR));have aJ:=aa.mk (Kd.bP xR (af (bz HB)));have aQ:=aa.mk (bn (kz jm) hb);have bt:=aa.mk (aq (bz HB) hb);clear jm;clear HB;have QM:=aJ;have jm:=aQ;have HB:=bt;clear aJ aQ bt;clear hb xR;have rT:w8.cell? ⟨pF,0,none⟩=some (.int .u8 aV):=cz jm.out 0 rfl;have rU:w8.cell? ⟨pF,1,none⟩=some (.int .u8 bh):=cz jm.out 1 rfl;have rV:w8.cell? ⟨pF,2,none⟩=some (.int .u16 bp):=cz jm.out 2 rfl;have rW:w8.cell? ⟨pF,3,none⟩=some (.int .u32 bw):=cz jm.out 3 rfl;have xF:w8.cell? ⟨pF,4,none⟩=some (.slice fE cA.length fF):=cz jm.out 4 rfl;have rX:=ae jm.out 0;have rY:=ae jm.out 1;have rZ:=ae jm.out 2;have sg:=ae jm.out 3;have xG:=ae jm.out 4)|((with_reducible refine fo (b:= .append) (xs:= #[.tmp 35,.tmp 37]) rfl ?_);at_builtin;refine Kd.gC (Kd.int .u8) (w0:=w) w.heap.size rfl (.tmp 35) (.tmp 37) 23 5 (.int .u8 0) 1 rfl Try.underlying23 gB rfl (by decide) (by omega) Amw C2 cA _ _ _ (fun _=>True) (fun _=>False) rfl rfl ?aO ?aR (fun _ _ h=>h) (fun _ h=>h.elim) ?aF ?aB ?aS ?aL ?_;(case aR=>exact Kd.aU oh.out (bz HB));(case aB=>exact bz HB);(case aF=>exact (fun _ _=>trivial));(case aO=>exact (Kd.rz QM));(case aS=>exact (af (bz HB)));(case aL=>have:=Z2.out;omega);intro Atj qf ho hb hg hat;rw [<- AeG.out] at ho;have aJ:=aa.mk (gV (kz jm) hg (Kd.nw QM.out jm.out (by decide)));have aQ:=aa.mk (hb);have bt:=aa.mk (ho);clear jm;clear HB;clear QM;have jm:=aJ;have HB:=aQ;have AeH:=bt;clear aJ aQ bt;clear ho hb hg hat))
   go_ret2
   exact ⟨_,by first|rfl|(simp [aj,ak]<;>rfl)|(simp [*,aj,ak]<;>rfl),by (with_reducible repeat (first|apply Kd.eX|apply Kd.eT|apply Kd.eY));exact AeH.out,bz HB⟩
  ·rw [ax c5] at H
   cases H
def nG.f (k:Nat) (aV:Int) (bh:Int) (bp:Int) (bw:Int) (cA:List Int):Option (Bool):=(iF.f aV bh bp bw cA).bind fun I2=>(if I2.2=0 then ((oq.f k I2.1).bind fun QN=>(some (QN==0))) else (some false))
theorem nG.calls (k:Nat) (aV:Int) (bh:Int) (bp:Int) (bw:Int) (fE:Option Addr) (fF:Nat) (cA:List Int) (r:Bool) (w:World) (jU:Kd.C (Kd.int .u8) w fE cA.length cA) (jV:cA.length<=fF) (h:nG.f k aV bh bp bw cA=some r):
  Calls Try.prog 162 #[.agg #[.int .u8 aV,.int .u8 bh,.int .u16 bp,.int .u32 bw,.slice fE cA.length fF]] w fun e w'=>e= .returned (.bool r) /\ Below w.heap.size w w':=by
 have ny:=Try.underlying101;have oh:=aa.mk jU;have o7:=aa.mk jV;clear jU jV;have HB:=gj w;have H:((iF.f aV bh bp bw cA).bind fun I2=>(if I2.2=0 then ((oq.f k I2.1).bind fun QN=>(some (QN==0))) else (some false)))=some r:=h;clear h;replace H:=cZ H;obtain ⟨⟨AaD,Lg⟩,uJ,H⟩:=H
 (try dsimp -simprocs only at H)
 have A2:=aa.mk uJ;clear uJ
 by_cases c3:Lg=0
 ·rw [au c3] at H
  have oY:(Lg==0)=true:=fH c3;have qP:(Lg !=0)=false:=kO c3;clear c3;replace H:=cZ H;obtain ⟨QN,qA,H⟩:=H
  (try dsimp -simprocs only at H)
  have A4:=aa.mk qA;clear qA;obtain rfl:=cS H
  go_enter Try.func162,Try.ntmps162
  go_wp2_with (first|((with_reducible refine aA (N:=1) rfl ?_);refine aC ?hg (N:=1) ?hd (cs:= #[.int .u8 aV,.int .u8 bh,.int .u16 bp,.int .u32 bw,.slice fE cA.length fF]) (t:=101) ?hr ?_;(case hd=>rfl);(case hg=>rfl);(case hr=>first|(go_simp;done)|(go_simp;rfl));intro sL hg w5 bK hb;have aJ:=aa.mk (aq (bz HB) hb);have aQ:=aa.mk (bK);have bt:=aa.mk ((by rw [hg];exact (af (bz HB)):w.heap.size<=sL));have cr:=aa.mk ((by rw [hg];exact (af (bz HB)):w.heap.size<=sL));clear HB;have HB:=aJ;have lf:=aQ;have AeI:=bt;have AeJ:=cr;clear aJ aQ bt cr;clear hb bK hg;have FR:w5.cell? ⟨sL,0,none⟩=some (.int .u8 aV):=cz lf.out 0 rfl;have FT:w5.cell? ⟨sL,1,none⟩=some (.int .u8 bh):=cz lf.out 1 rfl;have FU:w5.cell? ⟨sL,2,none⟩=some (.int .u16 bp):=cz lf.out 2 rfl;have FV:w5.cell? ⟨sL,3,none⟩=some (.int .u32 bw):=cz lf.out 3 rfl;have QO:w5.cell? ⟨sL,4,none⟩=some (.slice fE cA.length fF):=cz lf.out 4 rfl;have FW:=ae lf.out 0;have FX:=ae lf.out 1;have FY:=ae lf.out 2;have FZ:=ae lf.out 3;have QS:=ae lf.out 4)|((with_reducible refine ay (f:=112) rfl ?_);refine gL 7 Try.func112 #[.agg #[.int .u8 aV,.int .u8 bh,.int .u16 bp,.int .u32 bw,.slice fE cA.length fF]] ?_;(with_reducible refine (iF.calls aV bh bp bw _ _ cA AaD Lg _ ?aG ?aH A2.out).mono ?_);(case aG=>exact Kd.aU oh.out (bz HB));(case aH=>exact o7.out);rintro e w7 ⟨Amx,rfl,gE,hb⟩;refine ⟨_,rfl, ?_⟩;have aJ:=aa.mk (Kd.bP gE (af (bz HB)));have aQ:=aa.mk (bn (kz lf) hb);have bt:=aa.mk (aq (bz HB) hb);clear lf;clear HB;have C3:=aJ;have lf:=aQ;have HB:=bt;clear aJ aQ bt;(try clear hb);(try clear hb2);(try clear hk);(try clear hi);(try clear gE);obtain ⟨Ao8,co8,eo8⟩:=Kd.da C3.out;subst eo8)|(go_at_call 90;(with_reducible refine (oq.calls k _ _ AaD QN _ ?aG ?aH A4.out).mono ?_);(case aG=>repeat (first|exact (Kd.av C3.out).2.2|(with_reducible refine Kd.fD ?_ _)|(with_reducible refine Kd.fj ?_ _)|(with_reducible refine Kd.gP ?_)));(case aH=>exact (Kd.av C3.out).2.1);rintro e w9 ⟨rfl,hb⟩;have aJ:=aa.mk (Kd.fU (Kd.rz C3) hb);have aQ:=aa.mk (bn (kz lf) hb);have bt:=aa.mk (aq (bz HB) hb);clear C3;clear lf;clear HB;have C3:=aJ;have lf:=aQ;have HB:=bt;clear aJ aQ bt;(try clear hb);(try clear hb2);(try clear hk);(try clear hi)))
  go_ret
  exact ⟨by first|rfl|(simp [aj,ak]<;>rfl)|(simp [*,aj,ak]<;>rfl),bz HB⟩
 ·rw [ax c3] at H
  have oY:(Lg==0)=false:=fc c3;have qP:(Lg !=0)=true:=lA c3;obtain rfl:=cS H
  go_enter Try.func162,Try.ntmps162
  go_wp2_with (first|((with_reducible refine aA (N:=1) rfl ?_);refine aC ?hg (N:=1) ?hd (cs:= #[.int .u8 aV,.int .u8 bh,.int .u16 bp,.int .u32 bw,.slice fE cA.length fF]) (t:=101) ?hr ?_;(case hd=>rfl);(case hg=>rfl);(case hr=>first|(go_simp;done)|(go_simp;rfl));intro sL hg j4 bK hb;have aJ:=aa.mk (aq (bz HB) hb);have aQ:=aa.mk (bK);have bt:=aa.mk ((by rw [hg];exact (af (bz HB)):w.heap.size<=sL));have cr:=aa.mk ((by rw [hg];exact (af (bz HB)):w.heap.size<=sL));clear HB;have HB:=aJ;have lf:=aQ;have AeI:=bt;have AeJ:=cr;clear aJ aQ bt cr;clear hb bK hg;have vB:j4.cell? ⟨sL,0,none⟩=some (.int .u8 aV):=cz lf.out 0 rfl;have vC:j4.cell? ⟨sL,1,none⟩=some (.int .u8 bh):=cz lf.out 1 rfl;have vD:j4.cell? ⟨sL,2,none⟩=some (.int .u16 bp):=cz lf.out 2 rfl;have vE:j4.cell? ⟨sL,3,none⟩=some (.int .u32 bw):=cz lf.out 3 rfl;have Gn:j4.cell? ⟨sL,4,none⟩=some (.slice fE cA.length fF):=cz lf.out 4 rfl;have vF:=ae lf.out 0;have vG:=ae lf.out 1;have vH:=ae lf.out 2;have vI:=ae lf.out 3;have Gp:=ae lf.out 4)|((with_reducible refine ay (f:=112) rfl ?_);refine gL 7 Try.func112 #[.agg #[.int .u8 aV,.int .u8 bh,.int .u16 bp,.int .u32 bw,.slice fE cA.length fF]] ?_;(with_reducible refine (iF.calls aV bh bp bw _ _ cA AaD Lg _ ?aG ?aH A2.out).mono ?_);(case aG=>exact Kd.aU oh.out (bz HB));(case aH=>exact o7.out);rintro e l5 ⟨Amx,rfl,gE,hb⟩;refine ⟨_,rfl, ?_⟩;have aJ:=aa.mk (Kd.bP gE (af (bz HB)));have aQ:=aa.mk (bn (kz lf) hb);have bt:=aa.mk (aq (bz HB) hb);clear lf;clear HB;have C3:=aJ;have lf:=aQ;have HB:=bt;clear aJ aQ bt;(try clear hb);(try clear hb2);(try clear hk);(try clear hi);(try clear gE)))
  go_ret
  exact ⟨by first|rfl|(simp [aj,ak]<;>rfl)|(simp [*,aj,ak]<;>rfl),bz HB⟩
attribute [local go_sem] dF dG eG eH cQ cR dH dI
def kX.f (k:Nat) (aV:Int) (bh:Int) (bp:Int) (bw:Int) (cA:List Int) (xU:Int) (xV:Int) (xW:Int) (xX:Int) (xY:Int) (xZ:Int) (sj:Int) (sn:Int) (rG:List Int) (rH:List Int):Option (Bool):=(nG.f k aV bh bp bw cA).bind fun Oc=>(some Oc)
theorem kX.calls (k:Nat) (aV:Int) (bh:Int) (bp:Int) (bw:Int) (fE:Option Addr) (fF:Nat) (cA:List Int) (xU:Int) (xV:Int) (xW:Int) (xX:Int) (xY:Int) (xZ:Int) (sj:Int) (sn:Int) (Al:Option Addr) (Ap:Nat) (rG:List Int) (Ar:Option Addr) (Au:Nat) (rH:List Int) (r:Bool) (w:World) (jU:Kd.C (Kd.int .u8) w fE cA.length cA) (jV:cA.length<=fF) (Bd:Kd.C (Kd.int .u8) w Al rG.length rG) (Be:rG.length<=Ap) (Bf:Kd.C (Kd.int .u8) w Ar rH.length rH) (Bg:rH.length<=Au) (h:kX.f k aV bh bp bw cA xU xV xW xX xY xZ sj sn rG rH=some r):
  Calls Try.prog 161 #[.agg #[.int .u8 aV,.int .u8 bh,.int .u16 bp,.int .u32 bw,.slice fE cA.length fF],.agg #[.int .u8 xU,.int .u8 xV,.int .u8 xW,.int .u16 xX,.int .u8 xY,.int .u16 xZ,.int .u32 sj,.int .u32 sn,.slice Al rG.length Ap,.slice Ar rH.length Au]] w fun e w'=>e= .returned (.bool r) /\ Below w.heap.size w w':=by
 have C4:=Try.underlying183;have jb:=Try.underlying73;have ny:=Try.underlying101;have oh:=aa.mk jU;have o7:=aa.mk jV;clear jU jV;have WH:=aa.mk Bd;have WI:=aa.mk Be;clear Bd Be;have WJ:=aa.mk Bf;have WK:=aa.mk Bg;clear Bf Bg;have HB:=gj w;have H:((nG.f k aV bh bp bw cA).bind fun Oc=>(some Oc))=some r:=h;clear h;replace H:=cZ H;obtain ⟨Oc,wE,H⟩:=H;replace H:(some Oc)=some r:=H;have A3:=aa.mk wE;clear wE;obtain rfl:=cS H
 go_enter Try.func161,Try.ntmps161
 go_wp2_with (first|((with_reducible refine aA (N:=2) rfl ?_);refine aC ?hg (N:=2) ?hd (cs:= #[.int .u8 aV,.int .u8 bh,.int .u16 bp,.int .u32 bw,.slice fE cA.length fF]) (t:=183) ?hr ?_;(case hd=>rfl);(case hg=>rfl);(case hr=>first|(go_simp;done)|(go_simp;rfl));intro wX hg w4 bK hb;have aJ:=aa.mk (aq (bz HB) hb);have aQ:=aa.mk (bK);have bt:=aa.mk ((by rw [hg];exact (af (bz HB)):w.heap.size<=wX));have cr:=aa.mk ((by rw [hg];exact (af (bz HB)):w.heap.size<=wX));clear HB;have HB:=aJ;have qu:=aQ;have Aql:=bt;have Aqm:=cr;clear aJ aQ bt cr;clear hb bK hg)|((with_reducible refine aA (N:=3) rfl ?_);refine aC ?hg (N:=3) ?hd (cs:= #[.int .u8 xU,.int .u8 xV,.int .u8 xW,.int .u16 xX,.int .u8 xY,.int .u16 xZ,.int .u32 sj,.int .u32 sn,.slice Al rG.length Ap,.slice Ar rH.length Au]) (t:=73) ?hr ?_;(case hd=>rfl);(case hg=>rfl);(case hr=>first|(go_simp;done)|(go_simp;rfl));intro MH hg w5 bK hb;have aJ:=aa.mk (bn (kz qu) hb);have aQ:=aa.mk (aq (bz HB) hb);have bt:=aa.mk (bK);have cr:=aa.mk ((by rw [hg];exact (af (bz HB)):w.heap.size<=MH));have uz:=aa.mk ((by rw [hg];exact (af (bz HB)):w.heap.size<=MH));have yw:=aa.mk ((by rw [hg];exact Nat.ne_of_lt (mm (g:=wX) (o:= .cells #[.int .u8 aV,.int .u8 bh,.int .u16 bp,.int .u32 bw,.slice fE cA.length fF] 183 (0,0)) (kz qu)):wX≠MH));have Bh:=aa.mk ((by rw [hg];exact Nat.ne_of_gt (mm (g:=wX) (o:= .cells #[.int .u8 aV,.int .u8 bh,.int .u16 bp,.int .u32 bw,.slice fE cA.length fF] 183 (0,0)) (kz qu)):MH≠wX));clear qu;clear HB;have qu:=aJ;have HB:=aQ;have QT:=bt;have Aqn:=cr;have Aqo:=uz;have Od:=yw;have Oe:=Bh;clear aJ aQ bt cr uz yw Bh;clear hb bK hg;have Aen:=Od.out;have Aeo:=Oe.out;have tW:w5.cell? ⟨wX,0,none⟩=some (.int .u8 aV):=cz qu.out 0 rfl;have tX:w5.cell? ⟨wX,1,none⟩=some (.int .u8 bh):=cz qu.out 1 rfl;have tY:w5.cell? ⟨wX,2,none⟩=some (.int .u16 bp):=cz qu.out 2 rfl;have tZ:w5.cell? ⟨wX,3,none⟩=some (.int .u32 bw):=cz qu.out 3 rfl;have uX:w5.cell? ⟨wX,4,none⟩=some (.slice fE cA.length fF):=cz qu.out 4 rfl;have ua:=ae qu.out 0;have uf:=ae qu.out 1;have ug:=ae qu.out 2;have uh:=ae qu.out 3;have uY:=ae qu.out 4)|((with_reducible refine ay (f:=162) rfl ?_);refine gL 7 Try.func162 #[.agg #[.int .u8 aV,.int .u8 bh,.int .u16 bp,.int .u32 bw,.slice fE cA.length fF]] ?_;(with_reducible refine (nG.calls k aV bh bp bw _ _ cA Oc _ ?aG ?aH A3.out).mono ?_);(case aG=>exact Kd.aU oh.out (bz HB));(case aH=>exact o7.out);rintro e w8 ⟨rfl,hb⟩;refine ⟨_,rfl, ?_⟩;have aJ:=aa.mk (bn (kz qu) hb);have aQ:=aa.mk (bn (kz QT) hb);have bt:=aa.mk (aq (bz HB) hb);clear qu;clear QT;clear HB;have qu:=aJ;have QT:=aQ;have HB:=bt;clear aJ aQ bt;(try clear hb);(try clear hb2);(try clear hk);(try clear hi)))
 go_ret
 exact ⟨by first|rfl|(simp [aj,ak]<;>rfl)|(simp [*,aj,ak]<;>rfl),bz HB⟩
attribute [local go_sem] dF dG eG eH cQ cR dH dI
def kE.f (aV:Int) (bh:Int) (bp:Int) (fQ:List Int):Option (Int):=some 17
theorem kE.calls (aV:Int) (bh:Int) (bp:Int) (qi:Option Addr) (qj:Nat) (fQ:List Int) (r:Int) (w:World) (wV:Kd.C (Kd.int .u8) w qi fQ.length fQ) (wW:fQ.length<=qj) (h:kE.f aV bh bp fQ=some r):
  Calls Try.prog 155 #[.agg #[.int .u16 aV,.int .u16 bh,.int .u16 bp,.slice qi fQ.length qj]] w fun e w'=>e= .returned (.int .u8 r) /\ Below w.heap.size w w':=by
 have CW:=Try.underlying179;have EN:=aa.mk wV;have Mx:=aa.mk wW;clear wV wW;have HB:=gj w;have H:(some 17)=some r:=h;clear h;obtain rfl:=cS H
 go_enter Try.func155,Try.ntmps155
 go_wp2_with (first|((with_reducible refine aA (N:=1) rfl ?_);refine aC ?hg (N:=1) ?hd (cs:= #[.int .u16 aV,.int .u16 bh,.int .u16 bp,.slice qi fQ.length qj]) (t:=179) ?hr ?_;(case hd=>rfl);(case hg=>rfl);(case hr=>first|(go_simp;done)|(go_simp;rfl));intro WX hg w2 bK hb;have aJ:=aa.mk (aq (bz HB) hb);have aQ:=aa.mk (bK);have bt:=aa.mk ((by rw [hg];exact (af (bz HB)):w.heap.size<=WX));have cr:=aa.mk ((by rw [hg];exact (af (bz HB)):w.heap.size<=WX));clear HB;have HB:=aJ;have Aqp:=aQ;have Aqq:=bt;have Aqr:=cr;clear aJ aQ bt cr;clear hb bK hg))
 go_ret
 exact ⟨by first|rfl|(simp [aj,ak]<;>rfl)|(simp [*,aj,ak]<;>rfl),bz HB⟩
attribute [local go_sem] dF dG eG eH cQ cR dH dI
def kY.f (aV:Int) (bh:Int) (bp:Int) (bw:Int) (dQ:Int) (dU:Int) (dZ:Int) (ee:Int) (bN:List Int) (cJ:List Int):Option (Int):=some 6
theorem kY.calls (aV:Int) (bh:Int) (bp:Int) (bw:Int) (dQ:Int) (dU:Int) (dZ:Int) (ee:Int) (jw:Option Addr) (jx:Nat) (bN:List Int) (jy:Option Addr) (jz:Nat) (cJ:List Int) (r:Int) (w:World) (tF:Kd.C (Kd.int .u8) w jw bN.length bN) (tG:bN.length<=jx) (tH:Kd.C (Kd.int .u8) w jy cJ.length cJ) (tI:cJ.length<=jz) (h:kY.f aV bh bp bw dQ dU dZ ee bN cJ=some r):
  Calls Try.prog 157 #[.agg #[.int .u16 aV,.int .u16 bh,.int .u32 bp,.int .u32 bw,.int .u8 dQ,.int .u16 dU,.int .u16 dZ,.int .u16 ee,.slice jw bN.length jx,.slice jy cJ.length jz]] w fun e w'=>e= .returned (.int .u8 r) /\ Below w.heap.size w w':=by
 have C0:=Try.underlying181;have Bi:=aa.mk tF;have IY:=aa.mk tG;clear tF tG;have Bj:=aa.mk tH;have IZ:=aa.mk tI;clear tH tI;have HB:=gj w;have H:(some 6)=some r:=h;clear h;obtain rfl:=cS H
 go_enter Try.func157,Try.ntmps157
 go_wp2_with (first|((with_reducible refine aA (N:=1) rfl ?_);refine aC ?hg (N:=1) ?hd (cs:= #[.int .u16 aV,.int .u16 bh,.int .u32 bp,.int .u32 bw,.int .u8 dQ,.int .u16 dU,.int .u16 dZ,.int .u16 ee,.slice jw bN.length jx,.slice jy cJ.length jz]) (t:=181) ?hr ?_;(case hd=>rfl);(case hg=>rfl);(case hr=>first|(go_simp;done)|(go_simp;rfl));intro WY hg w2 bK hb;have aJ:=aa.mk (aq (bz HB) hb);have aQ:=aa.mk (bK);have bt:=aa.mk ((by rw [hg];exact (af (bz HB)):w.heap.size<=WY));have cr:=aa.mk ((by rw [hg];exact (af (bz HB)):w.heap.size<=WY));clear HB;have HB:=aJ;have Aqs:=aQ;have Aqt:=bt;have Aqu:=cr;clear aJ aQ bt cr;clear hb bK hg))
 go_ret
 exact ⟨by first|rfl|(simp [aj,ak]<;>rfl)|(simp [*,aj,ak]<;>rfl),bz HB⟩
attribute [local go_sem] dF dG eG eH cQ cR dH dI
def kZ.f (aV:Int) (bh:Int) (bp:Int) (bw:Int) (cA:List Int):Option (Int):=some 1
theorem kZ.calls (aV:Int) (bh:Int) (bp:Int) (bw:Int) (fE:Option Addr) (fF:Nat) (cA:List Int) (r:Int) (w:World) (jU:Kd.C (Kd.int .u8) w fE cA.length cA) (jV:cA.length<=fF) (h:kZ.f aV bh bp bw cA=some r):
  Calls Try.prog 160 #[.agg #[.int .u8 aV,.int .u8 bh,.int .u16 bp,.int .u32 bw,.slice fE cA.length fF]] w fun e w'=>e= .returned (.int .u8 r) /\ Below w.heap.size w w':=by
 have C4:=Try.underlying183;have oh:=aa.mk jU;have o7:=aa.mk jV;clear jU jV;have HB:=gj w;have H:(some 1)=some r:=h;clear h;obtain rfl:=cS H
 go_enter Try.func160,Try.ntmps160
 go_wp2_with (first|((with_reducible refine aA (N:=1) rfl ?_);refine aC ?hg (N:=1) ?hd (cs:= #[.int .u8 aV,.int .u8 bh,.int .u16 bp,.int .u32 bw,.slice fE cA.length fF]) (t:=183) ?hr ?_;(case hd=>rfl);(case hg=>rfl);(case hr=>first|(go_simp;done)|(go_simp;rfl));intro WZ hg w2 bK hb;have aJ:=aa.mk (aq (bz HB) hb);have aQ:=aa.mk (bK);have bt:=aa.mk ((by rw [hg];exact (af (bz HB)):w.heap.size<=WZ));have cr:=aa.mk ((by rw [hg];exact (af (bz HB)):w.heap.size<=WZ));clear HB;have HB:=aJ;have Aqv:=aQ;have Aqw:=bt;have Aqx:=cr;clear aJ aQ bt cr;clear hb bK hg))
 go_ret
 exact ⟨by first|rfl|(simp [aj,ak]<;>rfl)|(simp [*,aj,ak]<;>rfl),bz HB⟩
attribute [local go_sem] dF dG eG eH cQ cR dH dI
mutual
def cn.j0:Nat ->List Int ->Int ->Bool ->Option (Int×Bool)
 |0,_,_,_=>none
 |k+1,x0,x4,x29=>if x29=true then (some (0,false)) else (if 9<(x0.length:Int) then (if (rd x0 9)=17 then (cn.j1 k x0 x4 (rd x0 9) ((rd x0 9)==17)) else (cn.j1 k x0 x4 (rd x0 9) ((rd x0 9)==6))) else (none))
def cn.j1:Nat ->List Int ->Int ->Int ->Bool ->Option (Int×Bool)
 |0,_,_,_,_=>none
 |k+1,x0,x4,x32,x33=>if x33=true then (some (x4,true)) else (if x32=1 then (if 0<=x4 then (if x4<=(x0.length:Int) then ((fV.f (x0.drop (x4:Int).toNat)).bind fun Lh=>(some (x4,Lh))) else (none)) else (none)) else (some (0,false)))
end
def cn.f (k:Nat) (l0:List Int):Option (Int×Bool):=if (l0.length:Int)<20 then (some (0,false)) else (if 0<(l0.length:Int) then (if ((rd l0 0) / 16)=4 then (if (wrap64 (4*(wrap64 (Go.bits .and .u8 (rd l0 0) 15))))<20 then (cn.j0 k l0 (wrap64 (4*(wrap64 (Go.bits .and .u8 (rd l0 0) 15)))) true) else (cn.j0 k l0 (wrap64 (4*(wrap64 (Go.bits .and .u8 (rd l0 0) 15)))) (decide ((l0.length:Int)<(wrap64 ((wrap64 (4*(wrap64 (Go.bits .and .u8 (rd l0 0) 15))))+8)))))) else (cn.j0 k l0 (wrap64 (4*(wrap64 (Go.bits .and .u8 (rd l0 0) 15)))) true)) else (none))
theorem cn.calls (k:Nat) (A0:Option Addr) (c0:Nat) (l0:List Int) (r1:Int) (r2:Bool) (w:World) (hr0:Kd.C (Kd.int .u8) w A0 l0.length l0) (hc0:l0.length<=c0) (h:cn.f k l0=some (r1,r2)):
  Calls Try.prog 86 #[.slice A0 l0.length c0] w fun e w'=>e= .returned (.tuple #[.int .i64 r1,.bool r2]) /\ Below w.heap.size w w':=by
 have gh:=aa.mk hr0;have jC:=aa.mk hc0;clear hr0 hc0;have HB:=gj w;have H:(if (l0.length:Int)<20 then (some (0,false)) else (if 0<(l0.length:Int) then (if ((rd l0 0) / 16)=4 then (if (wrap64 (4*(wrap64 (Go.bits .and .u8 (rd l0 0) 15))))<20 then (cn.j0 k l0 (wrap64 (4*(wrap64 (Go.bits .and .u8 (rd l0 0) 15)))) true) else (cn.j0 k l0 (wrap64 (4*(wrap64 (Go.bits .and .u8 (rd l0 0) 15)))) (decide ((l0.length:Int)<(wrap64 ((wrap64 (4*(wrap64 (Go.bits .and .u8 (rd l0 0) 15))))+8)))))) else (cn.j0 k l0 (wrap64 (4*(wrap64 (Go.bits .and .u8 (rd l0 0) 15)))) true)) else (none)))=some (r1,r2):=h;clear h
 by_cases c2:(l0.length:Int)<20
 ·rw [au c2] at H
  have kg:decide ((l0.length:Int)<20)=true:=bS c2;have mG:decide (l0.length<20)=true:=bS (by omega);clear c2;simp only [Option.some.injEq,Prod.mk.injEq] at H
  obtain ⟨rfl,rfl⟩:=H
  go_enter Try.func86,Try.ntmps86
  go_wp2
  go_ret2
  exact ⟨by first|rfl|(simp [aj,ak]<;>rfl)|(simp [*,aj,ak]<;>rfl),bz HB⟩
 ·rw [ax c2] at H
  have kg:decide ((l0.length:Int)<20)=false:=gO c2;have mG:decide (l0.length<20)=false:=gO (by omega);clear c2
  by_cases c3:0<(l0.length:Int)
  ·rw [au c3] at H
   have oY:decide (0<(l0.length:Int))=true:=bS c3;have qP:decide (0<l0.length)=true:=bS (by omega);clear c3;have HC4:=aa.mk H;clear H;have QU:0<=(0:Int):=(by omega)
   have QV:0<(l0.length:Int):=gD;obtain ⟨I3,AmA,Ca⟩:=Kd.dB gh.out 0 QU QV
   cases AmA
   have Aqy:(0<l0.length)=True:=eq_true (by omega)
   (try rw [show ((0:Int)).toNat=0 from rfl] at Ca)
   (try rw [Addr.add_zero'] at Ca)
   replace QU:=eq_true QU;replace QV:=eq_true QV
   go_enter Try.func86,Try.ntmps86
   go_upto_region 4 with (fail)
   go_cut [29] (fun v29 wc=>∃ (kq:Nat) (MI:Bool),v29= .bool MI /\ aa (cn.j0 kq l0 (wrap64 (4*(wrap64 (Go.bits .and .u8 (rd l0 0) 15)))) MI=some (r1,r2)) /\ aa (kq<=k) /\ aa (Below w.heap.size w wc))
   case first=>
    have H:=HC4.out;clear HC4
    by_cases c5:((rd l0 0) / 16)=4
    ·rw [au c5] at H
     have mS:(((rd l0 0) / 16)==4)=true:=fH c5;have qz:(((rd l0 0) / 16) !=4)=false:=kO c5;clear c5
     (first|rw [mS]|(simp only [jk,mo];rw [mS])|skip)
     by_cases c6:(wrap64 (4*(wrap64 (Go.bits .and .u8 (rd l0 0) 15))))<20
     ·rw [au c6] at H
      have sG:decide ((wrap64 (4*(wrap64 (Go.bits .and .u8 (rd l0 0) 15))))<20)=true:=bS c6;clear c6;have H':=aa.mk H;clear H;have C5:0<=(0:Int):=(by omega)
      have C6:0<(l0.length:Int):=gD;obtain ⟨I4,QW,lT⟩:=Kd.dB gh.out 0 C5 C6;obtain rfl:I3=I4:=(by injection QW)
      have W3:(0<l0.length)=True:=eq_true (by omega)
      (try rw [show ((0:Int)).toNat=0 from rfl] at lT)
      (try rw [Addr.add_zero'] at lT)
      replace lT:=(HB.out.cell (dA w _ lT)).trans lT;replace C5:=eq_true C5;replace C6:=eq_true C6
      go_wp2
      go_meet
      case rel=>exact ⟨_,(true),(by first|rfl|(simp;done)|(simp [*];done)),H',⟨by first|omega|exact Nat.le_refl _⟩,⟨bz HB⟩⟩
     ·rw [ax c6] at H
      have sG:decide ((wrap64 (4*(wrap64 (Go.bits .and .u8 (rd l0 0) 15))))<20)=false:=gO c6;clear c6;have H':=aa.mk H;clear H;have C5:0<=(0:Int):=(by omega)
      have C6:0<(l0.length:Int):=gD;obtain ⟨I4,QW,lT⟩:=Kd.dB gh.out 0 C5 C6;obtain rfl:I3=I4:=(by injection QW)
      have W3:(0<l0.length)=True:=eq_true (by omega)
      (try rw [show ((0:Int)).toNat=0 from rfl] at lT)
      (try rw [Addr.add_zero'] at lT)
      replace lT:=(HB.out.cell (dA w _ lT)).trans lT;replace C5:=eq_true C5;replace C6:=eq_true C6
      go_wp2
      go_meet
      case rel=>exact ⟨_,(decide ((l0.length:Int)<(wrap64 ((wrap64 (4*(wrap64 (Go.bits .and .u8 (rd l0 0) 15))))+8)))),(by first|rfl|(simp;done)|(simp [*];done)),H',⟨by first|omega|exact Nat.le_refl _⟩,⟨bz HB⟩⟩
    ·rw [ax c5] at H
     have mS:(((rd l0 0) / 16)==4)=false:=fc c5;have qz:(((rd l0 0) / 16) !=4)=true:=lA c5
     (first|rw [mS]|(simp only [jk,mo];rw [mS])|skip)
     have H':=aa.mk H;clear H;have C5:0<=(0:Int):=(by omega)
     have C6:0<(l0.length:Int):=gD;obtain ⟨I4,QW,lT⟩:=Kd.dB gh.out 0 C5 C6;obtain rfl:I3=I4:=(by injection QW)
     have W3:(0<l0.length)=True:=eq_true (by omega)
     (try rw [show ((0:Int)).toNat=0 from rfl] at lT)
     (try rw [Addr.add_zero'] at lT)
     replace lT:=(HB.out.cell (dA w _ lT)).trans lT;replace C5:=eq_true C5;replace C6:=eq_true C6
     go_wp2
     go_meet
     case rel=>exact ⟨_,(true),(by first|rfl|(simp;done)|(simp [*];done)),H',⟨by first|omega|exact Nat.le_refl _⟩,⟨bz HB⟩⟩
   case rest=>
    clear HC4
    try clear c2
    try clear kg
    try clear mG
    try clear c3
    try clear oY
    try clear qP
    try clear Ca
    try clear QU
    try clear QV
    obtain ⟨kq,MI,rfl,HA,HJ3,HB⟩:=hcut
    cases kq with
    |zero=>exact absurd HA.out (by simp [cn.j0])
    |succ kj3=>
     have H:=HA.out;clear HA;simp only [cn.j0] at H
     by_cases c7:MI=true
     ·subst c7
      have H1:(some (0,false))=some (r1,r2):=by rw [au rfl] at H;exact H
      clear H;have H:=H1;clear H1;simp only [Option.some.injEq,Prod.mk.injEq] at H
      obtain ⟨rfl,rfl⟩:=H
      go_wp2
      go_ret2
      exact ⟨by first|rfl|(simp [aj,ak]<;>rfl)|(simp [*,aj,ak]<;>rfl),bz HB⟩
     ·replace c7:=xP c7
      subst c7;have H1:(if 9<(l0.length:Int) then (if (rd l0 9)=17 then (cn.j1 kj3 l0 (wrap64 (4*(wrap64 (Go.bits .and .u8 (rd l0 0) 15)))) (rd l0 9) ((rd l0 9)==17)) else (cn.j1 kj3 l0 (wrap64 (4*(wrap64 (Go.bits .and .u8 (rd l0 0) 15)))) (rd l0 9) ((rd l0 9)==6))) else (none))=some (r1,r2):=by rw [ax (show ¬ (false=true) by decide)] at H;exact H
      clear H;have H:=H1;clear H1
      by_cases c8:9<(l0.length:Int)
      ·rw [au c8] at H
       have nX:decide (9<(l0.length:Int))=true:=bS c8;have CB:decide (9<l0.length)=true:=bS (by omega);clear c8;have HC9:=aa.mk H;clear H;have Uu:0<=(9:Int):=(by omega)
       have Uv:9<(l0.length:Int):=gD;obtain ⟨AeM,AmD,xH⟩:=Kd.dB gh.out 9 Uu Uv;obtain rfl:I3=AeM:=(by injection AmD)
       (try simp only [show (9:Int).toNat=9 from rfl,Nat.reduceMul,Nat.reduceEqDiff,Go.Addr.add,↓reduceIte] at xH)
       have AqA:(9<l0.length)=True:=eq_true (by omega)
       (try rw [show ((9:Int)).toNat=9 from rfl] at xH)
       replace xH:=(HB.out.cell (dA w _ xH)).trans xH;replace Uu:=eq_true Uu;replace Uv:=eq_true Uv
       go_upto_if 33 with (fail)
       go_cut [33] (fun v33 wc=>∃ (kq:Nat) (MJ:Bool),v33= .bool MJ /\ aa (cn.j1 kq l0 (wrap64 (4*(wrap64 (Go.bits .and .u8 (rd l0 0) 15)))) (rd l0 9) MJ=some (r1,r2)) /\ aa (kq<=kj3) /\ aa (Below w.heap.size w wc))
       case first=>
        have H:=HC9.out;clear HC9
        by_cases Ba:(rd l0 9)=17
        ·rw [au Ba] at H
         have uw:((rd l0 9)==17)=true:=fH Ba;have Mo:((rd l0 9) !=17)=false:=kO Ba;clear Ba
         (first|rw [uw]|(simp only [jk,mo];rw [uw])|skip)
         have H':=aa.mk H;clear H
         go_wp2
         go_meet
         case rel=>exact ⟨_,(((rd l0 9)==17)),(by first|rfl|(simp;done)|(simp [*];done)),H',⟨by have:=HJ3.out;first|omega|exact Nat.le_refl _⟩,⟨bz HB⟩⟩
        ·rw [ax Ba] at H
         have uw:((rd l0 9)==17)=false:=fc Ba;have Mo:((rd l0 9) !=17)=true:=lA Ba
         (first|rw [uw]|(simp only [jk,mo];rw [uw])|skip)
         have H':=aa.mk H;clear H
         go_wp2
         go_meet
         case rel=>exact ⟨_,(((rd l0 9)==6)),(by first|rfl|(simp;done)|(simp [*];done)),H',⟨by have:=HJ3.out;first|omega|exact Nat.le_refl _⟩,⟨bz HB⟩⟩
       case rest=>
        clear HC9
        try clear c2
        try clear kg
        try clear mG
        try clear c3
        try clear oY
        try clear qP
        try clear c7
        try clear c8
        try clear nX
        try clear CB
        try clear Ca
        try clear xH
        try clear QU
        try clear Uu
        try clear QV
        try clear Uv
        obtain ⟨kq,MJ,rfl,HA,HJ8,HB⟩:=hcut
        cases kq with
        |zero=>exact absurd HA.out (by simp [cn.j1])
        |succ kj8=>
         have H:=HA.out;clear HA;simp only [cn.j1] at H
         by_cases ru:MJ=true
         ·subst ru
          have H1:(some ((wrap64 (4*(wrap64 (Go.bits .and .u8 (rd l0 0) 15)))),true))=some (r1,r2):=by rw [au rfl] at H;exact H
          clear H;have H:=H1;clear H1;simp only [Option.some.injEq,Prod.mk.injEq] at H
          obtain ⟨rfl,rfl⟩:=H
          go_wp2
          go_ret2
          exact ⟨by first|rfl|(simp [aj,ak]<;>rfl)|(simp [*,aj,ak]<;>rfl),bz HB⟩
         ·replace ru:=xP ru
          subst ru;have H1:(if (rd l0 9)=1 then (if 0<=(wrap64 (4*(wrap64 (Go.bits .and .u8 (rd l0 0) 15)))) then (if (wrap64 (4*(wrap64 (Go.bits .and .u8 (rd l0 0) 15))))<=(l0.length:Int) then ((fV.f (l0.drop ((wrap64 (4*(wrap64 (Go.bits .and .u8 (rd l0 0) 15)))):Int).toNat)).bind fun Lh=>(some ((wrap64 (4*(wrap64 (Go.bits .and .u8 (rd l0 0) 15)))),Lh))) else (none)) else (none)) else (some (0,false)))=some (r1,r2):=by rw [ax (show ¬ (false=true) by decide)] at H;exact H
          clear H;have H:=H1;clear H1
          by_cases uO:(rd l0 9)=1
          ·rw [au uO] at H
           have EK:((rd l0 9)==1)=true:=fH uO;have Mq:((rd l0 9) !=1)=false:=kO uO;clear uO;obtain ⟨pM,tK⟩:∃ j_:Int,(wrap64 (4*(wrap64 (Go.bits .and .u8 (rd l0 0) 15))))=j_:=⟨_,rfl⟩
           replace H:(if 0<=(pM) then (if (pM)<=(l0.length:Int) then ((fV.f (l0.drop ((pM):Int).toNat)).bind fun Lh=>(some ((pM),Lh))) else (none)) else (none))=some (r1,r2):=by first|(rw [tK] at H;exact H)|(simp only [tK] at H|-;exact H)
           have AaF:(IntKind.i64.wrap (4*(wrap64 (Go.bits .and .u8 (rd l0 0) 15))))=pM:=(jk _).trans tK
           by_cases Cb:0<=(pM)
           ·rw [au Cb] at H
            have C8:=eq_true Cb;have QX:decide (0<=(pM))=true:=bS Cb;clear Cb
            by_cases wP:(pM)<=(l0.length:Int)
            ·rw [au wP] at H
             have wQ:=eq_true wP;have EJ:decide ((pM)<=(l0.length:Int))=true:=bS wP;clear wP;replace H:=cZ H;obtain ⟨Lh,wR,H⟩:=H
             (try dsimp -simprocs only at H)
             have O6:=aa.mk wR;clear wR;simp only [Option.some.injEq,Prod.mk.injEq] at H
             obtain ⟨rfl,rfl⟩:=H;obtain ⟨Alk,Im,_,Io,_⟩:=info_parts gB;obtain ⟨O7,Zm,P3,P4⟩:=fR (P:=Try.prog) (Value.int .u8) 0 23 5 .i64 Try.underlying23 Im Io (some I3) c0 l0 (pM) gD gD jC.out;have AeN:=aa.mk (Kd.dD (h1:=fun _=>rfl) (P3 _ (Kd.dc gh.out)));have AeO:=aa.mk P4;clear P3 P4 Im Io
             go_wp2_with (first|((with_reducible refine ay (f:=114) rfl ?_);refine tQ (some 43) rfl rfl Try.func114 (by kernel_rfl) rfl #[.slice O7 (l0.drop ((pM):Int).toNat).length (c0 - (pM).toNat)] rfl (by (try simp only [List.map_toArray,List.map_cons,List.map_nil]);first|done|(rw [show (l0.drop ((pM):Int).toNat).length=(l0.length - (pM).toNat) from List.length_drop]<;>rfl)|(simp only [tK];rfl)|rfl|(simp only [List.length_drop,List.length_take];rfl)|(go_simp;done)|(simp [Act.eval,IntKind.signed];done)|(simp [Act.eval,IntKind.signed];rfl)) ?_;(with_reducible refine (fV.calls _ _ (l0.drop ((pM):Int).toNat) Lh _ ?aG ?aH O6.out).mono ?_);(case aG=>exact Kd.aU AeN.out (bz HB));(case aH=>exact AeO.out);rintro e Mr ⟨rfl,hb⟩;refine ⟨_,rfl, ?_⟩;have aJ:=aa.mk (aq (bz HB) hb);clear HB;have HB:=aJ;clear aJ;(try clear hb);(try clear hb2);(try clear hk);(try clear hi)))
             go_ret2
             exact ⟨by first|rfl|(simp [aj,ak]<;>rfl)|(simp only [<- tK];first|rfl|(simp [aj,ak]<;>rfl))|(simp [*,aj,ak]<;>rfl),bz HB⟩
            ·rw [ax wP] at H
             cases H
           ·rw [ax Cb] at H
            cases H
          ·rw [ax uO] at H
           have EK:((rd l0 9)==1)=false:=fc uO;have Mq:((rd l0 9) !=1)=true:=lA uO;simp only [Option.some.injEq,Prod.mk.injEq] at H
           obtain ⟨rfl,rfl⟩:=H
           go_wp2
           go_ret2
           exact ⟨by first|rfl|(simp [aj,ak]<;>rfl)|(simp [*,aj,ak]<;>rfl),bz HB⟩
      ·rw [ax c8] at H
       cases H
  ·rw [ax c3] at H
   cases H
def cW.f (l0:List Int):Option (Int):=if 0<(l0.length:Int) then (if 1<(l0.length:Int) then (some (Go.bits .or .u16 (IntKind.u16.wrap ((IntKind.u16.wrap (rd l0 0))*256)) (IntKind.u16.wrap (rd l0 1)))) else (none)) else (none)
theorem cW.calls (A0:Option Addr) (c0:Nat) (l0:List Int) (r:Int) (w:World) (hr0:Kd.C (Kd.int .u8) w A0 l0.length l0) (hc0:l0.length<=c0) (h:cW.f l0=some r):
  Calls Try.prog 87 #[.slice A0 l0.length c0] w fun e w'=>e= .returned (.int .u16 r) /\ bF w w':=by
 have gh:=aa.mk hr0;have jC:=aa.mk hc0;clear hr0 hc0;have H:(if 0<(l0.length:Int) then (if 1<(l0.length:Int) then (some (Go.bits .or .u16 (IntKind.u16.wrap ((IntKind.u16.wrap (rd l0 0))*256)) (IntKind.u16.wrap (rd l0 1)))) else (none)) else (none))=some r:=h;clear h
 by_cases c2:0<(l0.length:Int)
 ·rw [au c2] at H
  have kg:decide (0<(l0.length:Int))=true:=bS c2;have mG:decide (0<l0.length)=true:=bS (by omega);clear c2
  by_cases c3:1<(l0.length:Int)
  ·rw [au c3] at H
   have oY:decide (1<(l0.length:Int))=true:=bS c3;have qP:decide (1<l0.length)=true:=bS (by omega);clear c3;obtain rfl:=cS H;have AaG:0<=(0:Int):=(by omega)
   have AaH:0<(l0.length:Int):=gD;obtain ⟨AeP,AmG,MK⟩:=Kd.dB gh.out 0 AaG AaH
   cases AmG
   have AqB:(0<l0.length)=True:=eq_true (by omega)
   (try rw [show ((0:Int)).toNat=0 from rfl] at MK)
   (try rw [Addr.add_zero'] at MK)
   replace AaG:=eq_true AaG;replace AaH:=eq_true AaH;have AaI:0<=(1:Int):=(by omega)
   have AaJ:1<(l0.length:Int):=gD;obtain ⟨AeQ,AmH,ML⟩:=Kd.dB gh.out 1 AaI AaJ;obtain rfl:AeP=AeQ:=(by injection AmH)
   (try simp only [show (1:Int).toNat=1 from rfl,Nat.reduceMul,Nat.reduceEqDiff,Go.Addr.add,↓reduceIte] at ML)
   have AqC:(1<l0.length)=True:=eq_true (by omega)
   (try rw [show ((1:Int)).toNat=1 from rfl] at ML)
   replace AaI:=eq_true AaI;replace AaJ:=eq_true AaJ
   go_enter Try.func87,Try.ntmps87
   go_wp2
   repeat (go_quiet (fail);try go_wp2)
   go_ret
   exact ⟨by first|rfl|(simp;done)|(simp [*];done),by repeat (first|exact bF.refl _|apply bF.step)⟩
  ·rw [ax c3] at H
   cases H
 ·rw [ax c2] at H
  cases H
def dR.f (l0:List Int):Option (Int):=(cW.f l0).bind fun Li=>(if 2<=(l0.length:Int) then ((cW.f (l0.drop 2)).bind fun Lj=>(some (Go.bits .or .u32 ((((Li) % 4294967296)*65536) % 4294967296) ((Lj) % 4294967296)))) else (none))
theorem dR.calls (A0:Option Addr) (c0:Nat) (l0:List Int) (r:Int) (w:World) (hr0:Kd.C (Kd.int .u8) w A0 l0.length l0) (hc0:l0.length<=c0) (h:dR.f l0=some r):
  Calls Try.prog 124 #[.slice A0 l0.length c0] w fun e w'=>e= .returned (.int .u32 r) /\ bF w w':=by
 have gh:=aa.mk hr0;have jC:=aa.mk hc0;clear hr0 hc0;have H:((cW.f l0).bind fun Li=>(if 2<=(l0.length:Int) then ((cW.f (l0.drop 2)).bind fun Lj=>(some (Go.bits .or .u32 ((((Li) % 4294967296)*65536) % 4294967296) ((Lj) % 4294967296)))) else (none)))=some r:=h;clear h;replace H:=cZ H;obtain ⟨Li,uJ,H⟩:=H
 (try dsimp -simprocs only at H)
 have A2:=aa.mk uJ;clear uJ
 by_cases c3:2<=(l0.length:Int)
 ·rw [au c3] at H
  have oY:=eq_true c3;have qP:decide (2<=(l0.length:Int))=true:=bS c3;clear c3;replace H:=cZ H;obtain ⟨Lj,qA,H⟩:=H
  (try dsimp -simprocs only at H)
  have A4:=aa.mk qA;clear qA;obtain rfl:=cS H
  go_enter Try.func124,Try.ntmps124
  go_wp2_with (first|(go_at_call 87;(with_reducible refine (cW.calls _ _ l0 Li _ ?aG ?aH A2.out).mono ?_);(case aG=>repeat (first|exact gh.out|(with_reducible refine Kd.fD ?_ _)|(with_reducible refine Kd.fj ?_ _)|(with_reducible refine Kd.gP ?_)));(case aH=>exact jC.out);rintro e w' ⟨rfl,⟨nd,rfl⟩⟩;(try first|exact ⟨rfl,_,World.drewN_drewN _ _ _⟩|exact ⟨rfl,_,Eq.trans (World.drewN_drewN _ _ _) (congrArg (World.drewN _) (Nat.add_assoc _ _ _))⟩);obtain ⟨i05,I5,_,I6,_⟩:=info_parts gB;obtain ⟨A5,W4,W5,W6⟩:=fR (P:=Try.prog) (Value.int .u8) 0 23 5 .i64 Try.underlying23 I5 I6 A0 c0 l0 2 (by omega) gD jC.out;have I7:=aa.mk (Kd.dD (h1:=fun _=>rfl) (W5 _ (Kd.dc gh.out)));have I8:=aa.mk W6;clear W5 W6 I5 I6)|(go_at_call 87;refine tR (args':= #[.slice A5 (l0.drop 2).length (c0 - 2)]) (by first|(rw [show (l0.drop 2).length=(l0.length - 2) from List.length_drop];done)|rfl|(simp;done)) ?_;(with_reducible refine (cW.calls _ _ (l0.drop 2) Lj _ ?aG ?aH A4.out).mono ?_);(case aG=>repeat (first|exact I7.out|(with_reducible refine Kd.fD ?_ _)|(with_reducible refine Kd.fj ?_ _)|(with_reducible refine Kd.gP ?_)));(case aH=>exact I8.out);rintro e w' ⟨rfl,⟨nd,rfl⟩⟩;(try first|exact ⟨rfl,_,World.drewN_drewN _ _ _⟩|exact ⟨rfl,_,Eq.trans (World.drewN_drewN _ _ _) (congrArg (World.drewN _) (Nat.add_assoc _ _ _))⟩)))
  repeat (go_quiet (first|(go_at_call 87;(with_reducible refine (cW.calls _ _ l0 Li _ ?aG ?aH A2.out).mono ?_);(case aG=>repeat (first|exact gh.out|(with_reducible refine Kd.fD ?_ _)|(with_reducible refine Kd.fj ?_ _)|(with_reducible refine Kd.gP ?_)));(case aH=>exact jC.out);rintro e w' ⟨rfl,⟨nd,rfl⟩⟩;(try first|exact ⟨rfl,_,World.drewN_drewN _ _ _⟩|exact ⟨rfl,_,Eq.trans (World.drewN_drewN _ _ _) (congrArg (World.drewN _) (Nat.add_assoc _ _ _))⟩);obtain ⟨i05,I5,_,I6,_⟩:=info_parts gB;obtain ⟨A5,W4,W5,W6⟩:=fR (P:=Try.prog) (Value.int .u8) 0 23 5 .i64 Try.underlying23 I5 I6 A0 c0 l0 2 (by omega) gD jC.out;have I7:=aa.mk (Kd.dD (h1:=fun _=>rfl) (W5 _ (Kd.dc gh.out)));have I8:=aa.mk W6;clear W5 W6 I5 I6)|(go_at_call 87;refine tR (args':= #[.slice A5 (l0.drop 2).length (c0 - 2)]) (by first|(rw [show (l0.drop 2).length=(l0.length - 2) from List.length_drop];done)|rfl|(simp;done)) ?_;(with_reducible refine (cW.calls _ _ (l0.drop 2) Lj _ ?aG ?aH A4.out).mono ?_);(case aG=>repeat (first|exact I7.out|(with_reducible refine Kd.fD ?_ _)|(with_reducible refine Kd.fj ?_ _)|(with_reducible refine Kd.gP ?_)));(case aH=>exact I8.out);rintro e w' ⟨rfl,⟨nd,rfl⟩⟩;(try first|exact ⟨rfl,_,World.drewN_drewN _ _ _⟩|exact ⟨rfl,_,Eq.trans (World.drewN_drewN _ _ _) (congrArg (World.drewN _) (Nat.add_assoc _ _ _))⟩)));try go_wp2_with (first|(go_at_call 87;(with_reducible refine (cW.calls _ _ l0 Li _ ?aG ?aH A2.out).mono ?_);(case aG=>repeat (first|exact gh.out|(with_reducible refine Kd.fD ?_ _)|(with_reducible refine Kd.fj ?_ _)|(with_reducible refine Kd.gP ?_)));(case aH=>exact jC.out);rintro e w' ⟨rfl,⟨nd,rfl⟩⟩;(try first|exact ⟨rfl,_,World.drewN_drewN _ _ _⟩|exact ⟨rfl,_,Eq.trans (World.drewN_drewN _ _ _) (congrArg (World.drewN _) (Nat.add_assoc _ _ _))⟩);obtain ⟨i05,I5,_,I6,_⟩:=info_parts gB;obtain ⟨A5,W4,W5,W6⟩:=fR (P:=Try.prog) (Value.int .u8) 0 23 5 .i64 Try.underlying23 I5 I6 A0 c0 l0 2 (by omega) gD jC.out;have I7:=aa.mk (Kd.dD (h1:=fun _=>rfl) (W5 _ (Kd.dc gh.out)));have I8:=aa.mk W6;clear W5 W6 I5 I6)|(go_at_call 87;refine tR (args':= #[.slice A5 (l0.drop 2).length (c0 - 2)]) (by first|(rw [show (l0.drop 2).length=(l0.length - 2) from List.length_drop];done)|rfl|(simp;done)) ?_;(with_reducible refine (cW.calls _ _ (l0.drop 2) Lj _ ?aG ?aH A4.out).mono ?_);(case aG=>repeat (first|exact I7.out|(with_reducible refine Kd.fD ?_ _)|(with_reducible refine Kd.fj ?_ _)|(with_reducible refine Kd.gP ?_)));(case aH=>exact I8.out);rintro e w' ⟨rfl,⟨nd,rfl⟩⟩;(try first|exact ⟨rfl,_,World.drewN_drewN _ _ _⟩|exact ⟨rfl,_,Eq.trans (World.drewN_drewN _ _ _) (congrArg (World.drewN _) (Nat.add_assoc _ _ _))⟩))))
  go_ret
  exact ⟨by first|rfl|(simp;done)|(simp [*];done),by repeat (first|exact bF.refl _|apply bF.step)⟩
 ·rw [ax c3] at H
  cases H
end Go.Proofs.Ytkmimamminddiaa.PB
