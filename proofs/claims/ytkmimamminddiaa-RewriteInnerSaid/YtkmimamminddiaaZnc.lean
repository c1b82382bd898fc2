/- Texts of this claim, merged: PBx15, PBx6, PBx19, PBx20, PBx42, PBx2, PBx43, PBx44, PBx45, PBx46, PBx47, PBx48, PBx49, PBx52. -/
import Derived.Test.YtkmimamminddiaaZnb
set_option maxHeartbeats 40000000
set_option maxRecDepth 100000
set_option linter.unusedVariables false
set_option linter.unusedSimpArgs false
namespace Go.Proofs.Ytkmimamminddiaa.PB
open Go.RowKit Go.Proofs.ah.bT Go.Proofs.ah.cY Go.Proofs.ah.iw
attribute [local go_sem] dI dJ eI eJ cO cP dK dL
theorem da.FC {P:Program} {ops:Array Oper} {Q:Exit ->Act ->World ->Prop} {rest:List Oper} {oi:Oper} {a:Act} {w:World} (N:Option Tmp) (_hd:oi.dst=N) (hg:oi.guard=none) {f:FuncId} {fn:Func} {as_:Array Operand} {ts:Array TypeId} (hf:P.funcs[f]?=some fn) (hname:(fn.name== "runtime.NumGoroutine")=false) (hb:fn.body.isSome=true) (args:Array Value)
  (hop:oi.op= .call {callee:= .value (.func f),args:=as_,argTypes:=ts}) (hargs:as_.map a.eval=args)
  (h:Calls P f args w fun e w'=>∃ ch,e= .panicked ch /\ Q (.panic ch) a w'):wpList P ops Q (oi::rest) a w:=by
 refine wpList_plain hg fun K hK=> ?_
 have he:=Gh hf hname hb args w
 have hrun:(execOp a.eval oi).run P w= .ok (.enter f args) w:=by
  unfold execOp
  simp [hop,resolve,Deferred.ofValue,invoke,Act.eval,hargs,he]
 unfold Oper.wp;rw [hrun,Oper.upon_enter];refine h.mono fun e w'' hh=> ?_
 obtain ⟨ch,rfl,hk⟩:=hh;exact hk
theorem dW.panics (a0:Bool) (a1:Int) (w:World) (h:a0=false):Calls Try.prog 117 #[.bool a0,.int .i64 a1] w fun e w'=>e= .panicked [{v:= .iface 163 (.agg #[.int .i64 a1]),recovered:=false}] /\ bB w w':=by
 subst h;have Af2:=Try.underlying163
 go_enter Try.func117,Try.ntmps117
 go_wp2
 exact ⟨rfl,rfl,by repeat (first|exact bB.refl _|apply bB.step)⟩
def da.T5:Bool×List (List Nat×List Nat):=(true,[([],[]),([],[]),([1],[1]),([0,0],[0]),([2,3,0,1,2,3],[2])])
def da.B5:List Nat:=[0,0,2,1,15]
theorem da.Aoh:gB .any (opsOf Try.f94 5)=da.T5:=by kernel_rfl
theorem da.Af3:cS da.T5.2 da.B5=true:=by kernel_rfl
theorem da.RV (x:Int) (w:World):(Instr.typeAssert (.iface 163 (.agg #[.int .i64 x])) 20 163 true).run Try.prog w= .ok (.tuple #[.agg #[.int .i64 x],.bool true]) w:=by kernel_rfl
theorem da.Cb (x:Int) (w0 w:World) (B gp ge:Nat) (hp:w.heap[gp]?=some (.cells jL 73 (0,0)))
  (he:w.heap[ge]?=some (.cells #[.int .i64 0] 49 (0,0))) (hne:gp≠ge) (hB:Below B w0 w) (hBp:B<=gp) (hBe:B<=ge):
  CallsD Try.prog 94 #[.pointer (some ⟨gp,0,none⟩),.pointer (some ⟨ge,0,none⟩)] (.panicking [{v:= .iface 163 (.agg #[.int .i64 x]),recovered:=false}]) w fun e u' w'=>
   e= .returned (.tuple #[]) /\ u'= .panicking [{v:= .iface 163 (.agg #[.int .i64 x]),recovered:=true}] /\
   w'.heap[gp]?=some (.cells jL 73 (0,0)) /\
   w'.heap[ge]?=some (.cells #[.int .i64 x] 49 (0,0)) /\ Below B w0 w':=by
 have HP:=aa.mk hp;have HE:=aa.mk he;have HN:=aa.mk hne;have HB:=aa.mk hB;have RW:=aa.mk hBp;have HBE:=aa.mk hBe;clear hp he hne hB hBp hBe;have O4:=Try.underlying73;have Af2:=Try.underlying163;have Abz:∀ (v:Value) (w:World),(binOp BinOp.neq 20 (.iface 163 v) .nilIface).run Try.prog w= .ok (.bool true) w:=fun _ _=>by kernel_rfl
 have hta:=da.RV x;refine callsD_of_wpS Try.func94 rfl fun c₀ cs hu=> ?_
 simp only [Try.ntmps94,List.size_toArray,List.length_cons,List.length_nil,Nat.reduceAdd,Nat.reduceSub,Array.replicate_succ,Array.replicate_zero,List.push_toArray,List.append_toArray,List.nil_append,List.cons_append]
 apply wpS_seq
 apply wpS_region
 simp [wpOpsS,go_sem,recoverD,hu,Try.ntmps94,Exit.thenS]
 apply wpS_seq
 apply wpS_region
 simp [wpOpsS,go_sem,Exit.thenS]
 refine wpS_cond (t:=true) (by simp [Act.eval,Array.replicate]) ?_;simp only [if_true];refine wpS_of_wp ?_
 go_upto_region 5 with (fail)
 have hf:(w.alloc (.cells #[.int .i64 x] 163)).drew.cell? ⟨w.heap.size,0,none⟩=some (.int .i64 x):=by go_simp
 refine dB (n:=5) (S:=fun w'=>w'.cell? ⟨w.heap.size,0,none⟩=some (.int .i64 x)) (ds:=[]) #[false,false,false,false,false] (by kernel_rfl) rfl rfl hf (fun hHeld=> ?_);refine bF da.Aoh da.Af3 (fun ax eu=> ?_);have Af4:w.heap.size≠gp:=fun e=>by have:=lZ HP.out;omega
 have Yj:w.heap.size≠ge:=fun e=>by have:=lZ HE.out;omega
 have AY:=aa.mk (aJ (aM HP.out (.cells #[.int .i64 x] 163)));have HE1:=aa.mk (aJ (aM HE.out (.cells #[.int .i64 x] 163)));have Rb:aa (Below B w0 (w.alloc (.cells #[.int .i64 x] 163)).drew):=⟨rX (Below.alloc HB.out (by have:=lZ HP.out;have:=RW.out;omega) _)⟩
 have RX:=aa.mk Af4;have HG2:=aa.mk Yj;clear HP HE HB Af4 Yj hf;generalize (w.alloc (.cells #[.int .i64 x] 163)).drew=wc at AY HE1 Rb hHeld|-
 generalize w.heap.size=gf at RX HG2 hHeld ax eu|-
 refine pz 0 16 ax ?_;refine pz 1 17 ax ?_;refine tz 2 18 ax eu hHeld ?_;have O5:aa (ge≠gp):=⟨fun e=>HN.out e.symm⟩
 refine oz 3 (none) ax (fun K hK=> ?_);have hs0:=cz AY.out 0 rfl;have LC:=ae AY.out 0;have hs1:=cz AY.out 1 rfl;have AbA:=ae AY.out 1;have hs2:=cz AY.out 2 rfl;have AbB:=ae AY.out 2;have hs3:=cz AY.out 3 rfl;have AbC:=ae AY.out 3;have hs4:=cz AY.out 4 rfl;have AbD:=ae AY.out 4;have hs5:=cz AY.out 5 rfl;have AbE:=ae AY.out 5;have hs6:=cz AY.out 6 rfl;have AbF:=ae AY.out 6;have hs7:=cz AY.out 7 rfl;have AbG:=ae AY.out 7;have hs8:=cz AY.out 8 rfl;have AbH:=ae AY.out 8;have hs9:=cz AY.out 9 rfl;have AbI:=ae AY.out 9
 refine wB (w1:=((((((((((wc.setCell ⟨gp,0,none⟩ (.int .u8 0)).setCell ⟨gp,1,none⟩ (.int .u8 0)).setCell ⟨gp,2,none⟩ (.int .u8 0)).setCell ⟨gp,3,none⟩ (.int .u16 0)).setCell ⟨gp,4,none⟩ (.int .u8 0)).setCell ⟨gp,5,none⟩ (.int .u16 0)).setCell ⟨gp,6,none⟩ (.int .u32 0)).setCell ⟨gp,7,none⟩ (.int .u32 0)).setCell ⟨gp,8,none⟩ (.slice none 0 0)).setCell ⟨gp,9,none⟩ (.slice none 0 0))) (by rfl) rfl ?_ ?_
 ·go_simp
 have f1:=aa.mk ((cell_far (W:=(((((((((wc.setCell ⟨gp,0,none⟩ (.int .u8 0)).setCell ⟨gp,1,none⟩ (.int .u8 0)).setCell ⟨gp,2,none⟩ (.int .u8 0)).setCell ⟨gp,3,none⟩ (.int .u16 0)).setCell ⟨gp,4,none⟩ (.int .u8 0)).setCell ⟨gp,5,none⟩ (.int .u16 0)).setCell ⟨gp,6,none⟩ (.int .u32 0)).setCell ⟨gp,7,none⟩ (.int .u32 0)).setCell ⟨gp,8,none⟩ (.slice none 0 0))) (p:=⟨gp,9,none⟩) RX.out (.slice none 0 0)).trans ((cell_far (W:=((((((((wc.setCell ⟨gp,0,none⟩ (.int .u8 0)).setCell ⟨gp,1,none⟩ (.int .u8 0)).setCell ⟨gp,2,none⟩ (.int .u8 0)).setCell ⟨gp,3,none⟩ (.int .u16 0)).setCell ⟨gp,4,none⟩ (.int .u8 0)).setCell ⟨gp,5,none⟩ (.int .u16 0)).setCell ⟨gp,6,none⟩ (.int .u32 0)).setCell ⟨gp,7,none⟩ (.int .u32 0))) (p:=⟨gp,8,none⟩) RX.out (.slice none 0 0)).trans ((cell_far (W:=(((((((wc.setCell ⟨gp,0,none⟩ (.int .u8 0)).setCell ⟨gp,1,none⟩ (.int .u8 0)).setCell ⟨gp,2,none⟩ (.int .u8 0)).setCell ⟨gp,3,none⟩ (.int .u16 0)).setCell ⟨gp,4,none⟩ (.int .u8 0)).setCell ⟨gp,5,none⟩ (.int .u16 0)).setCell ⟨gp,6,none⟩ (.int .u32 0))) (p:=⟨gp,7,none⟩) RX.out (.int .u32 0)).trans ((cell_far (W:=((((((wc.setCell ⟨gp,0,none⟩ (.int .u8 0)).setCell ⟨gp,1,none⟩ (.int .u8 0)).setCell ⟨gp,2,none⟩ (.int .u8 0)).setCell ⟨gp,3,none⟩ (.int .u16 0)).setCell ⟨gp,4,none⟩ (.int .u8 0)).setCell ⟨gp,5,none⟩ (.int .u16 0))) (p:=⟨gp,6,none⟩) RX.out (.int .u32 0)).trans ((cell_far (W:=(((((wc.setCell ⟨gp,0,none⟩ (.int .u8 0)).setCell ⟨gp,1,none⟩ (.int .u8 0)).setCell ⟨gp,2,none⟩ (.int .u8 0)).setCell ⟨gp,3,none⟩ (.int .u16 0)).setCell ⟨gp,4,none⟩ (.int .u8 0))) (p:=⟨gp,5,none⟩) RX.out (.int .u16 0)).trans ((cell_far (W:=((((wc.setCell ⟨gp,0,none⟩ (.int .u8 0)).setCell ⟨gp,1,none⟩ (.int .u8 0)).setCell ⟨gp,2,none⟩ (.int .u8 0)).setCell ⟨gp,3,none⟩ (.int .u16 0))) (p:=⟨gp,4,none⟩) RX.out (.int .u8 0)).trans ((cell_far (W:=(((wc.setCell ⟨gp,0,none⟩ (.int .u8 0)).setCell ⟨gp,1,none⟩ (.int .u8 0)).setCell ⟨gp,2,none⟩ (.int .u8 0))) (p:=⟨gp,3,none⟩) RX.out (.int .u16 0)).trans ((cell_far (W:=((wc.setCell ⟨gp,0,none⟩ (.int .u8 0)).setCell ⟨gp,1,none⟩ (.int .u8 0))) (p:=⟨gp,2,none⟩) RX.out (.int .u8 0)).trans ((cell_far (W:=(wc.setCell ⟨gp,0,none⟩ (.int .u8 0))) (p:=⟨gp,1,none⟩) RX.out (.int .u8 0)).trans ((cell_far (W:=wc) (p:=⟨gp,0,none⟩) RX.out (.int .u8 0)).trans hHeld))))))))))
 have f2:=aa.mk (bK (bK (bK (bK (bK (bK (bK (bK (bK (bK AY.out 0 (.int .u8 0) rfl) 1 (.int .u8 0) rfl) 2 (.int .u8 0) rfl) 3 (.int .u16 0) rfl) 4 (.int .u8 0) rfl) 5 (.int .u16 0) rfl) 6 (.int .u32 0) rfl) 7 (.int .u32 0) rfl) 8 (.slice none 0 0) rfl) 9 (.slice none 0 0) rfl);have f3:=aa.mk (jk (jk (jk (jk (jk (jk (jk (jk (jk (jk HE1.out (p:=⟨gp,0,none⟩) O5.out (.int .u8 0)) (p:=⟨gp,1,none⟩) O5.out (.int .u8 0)) (p:=⟨gp,2,none⟩) O5.out (.int .u8 0)) (p:=⟨gp,3,none⟩) O5.out (.int .u16 0)) (p:=⟨gp,4,none⟩) O5.out (.int .u8 0)) (p:=⟨gp,5,none⟩) O5.out (.int .u16 0)) (p:=⟨gp,6,none⟩) O5.out (.int .u32 0)) (p:=⟨gp,7,none⟩) O5.out (.int .u32 0)) (p:=⟨gp,8,none⟩) O5.out (.slice none 0 0)) (p:=⟨gp,9,none⟩) O5.out (.slice none 0 0))
 have f4:=aa.mk (Below.setCell (p:=⟨gp,9,none⟩) (Below.setCell (p:=⟨gp,8,none⟩) (Below.setCell (p:=⟨gp,7,none⟩) (Below.setCell (p:=⟨gp,6,none⟩) (Below.setCell (p:=⟨gp,5,none⟩) (Below.setCell (p:=⟨gp,4,none⟩) (Below.setCell (p:=⟨gp,3,none⟩) (Below.setCell (p:=⟨gp,2,none⟩) (Below.setCell (p:=⟨gp,1,none⟩) (Below.setCell (p:=⟨gp,0,none⟩) Rb.out RW.out (.int .u8 0)) RW.out (.int .u8 0)) RW.out (.int .u8 0)) RW.out (.int .u16 0)) RW.out (.int .u8 0)) RW.out (.int .u16 0)) RW.out (.int .u32 0)) RW.out (.int .u32 0)) RW.out (.slice none 0 0)) RW.out (.slice none 0 0));clear hs0 hs1 hs2 hs3 hs4 hs5 hs6 hs7 hs8 hs9 LC AbA AbB AbC AbD AbE AbF AbG AbH AbI
 generalize ((((((((((wc.setCell ⟨gp,0,none⟩ (.int .u8 0)).setCell ⟨gp,1,none⟩ (.int .u8 0)).setCell ⟨gp,2,none⟩ (.int .u8 0)).setCell ⟨gp,3,none⟩ (.int .u16 0)).setCell ⟨gp,4,none⟩ (.int .u8 0)).setCell ⟨gp,5,none⟩ (.int .u16 0)).setCell ⟨gp,6,none⟩ (.int .u32 0)).setCell ⟨gp,7,none⟩ (.int .u32 0)).setCell ⟨gp,8,none⟩ (.slice none 0 0)).setCell ⟨gp,9,none⟩ (.slice none 0 0))=wd at f1 f2 f3 f4|-
 clear AY HE1 Rb hHeld;refine hK.out _ _ f1.out (fun hHeld=> ?_);clear hK K;refine oz 4 (none) ax (fun K hK=> ?_);have he0:=cz f3.out 0 rfl;have Aor:=ae f3.out 0;refine wB (w1:=wd.setCell ⟨ge,0,none⟩ (.int .i64 x)) (by rfl) rfl ?_ ?_
 ·go_simp
 clear he0 Aor;refine hK.out _ _ ((cell_far (W:=wd) (p:=⟨ge,0,none⟩) HG2.out (.int .i64 x)).trans hHeld) (fun hHeld=> ?_);clear hK K;refine dz ax ?_;have g1:(wd.setCell ⟨ge,0,none⟩ (.int .i64 x)).heap[gp]?=_:=jk f2.out (p:=⟨ge,0,none⟩) HN.out (.int .i64 x);have g2:(wd.setCell ⟨ge,0,none⟩ (.int .i64 x)).heap[ge]?=_:=bK f3.out 0 (.int .i64 x) rfl;have g3:=Below.setCell (p:=⟨ge,0,none⟩) f4.out HBE.out (.int .i64 x);clear Abz hta O4 Af2;exact ⟨rfl,_,rfl,.tuple #[],by simp [results,Try.results94],rfl,rfl,g1,g2,g3⟩
theorem da.LD (p q:Addr) (w:World):CallsD Try.prog 94 #[.pointer (some p),.pointer (some q)] .returning w fun e u' w'=>e= .returned (.tuple #[]) /\ u'= .returning /\ w'=w:=by
 have Abz:∀ (w:World),(binOp BinOp.neq 20 .nilIface .nilIface).run Try.prog w= .ok (.bool false) w:=fun _=>by kernel_rfl
 refine callsD_of_wpS Try.func94 rfl fun c₀ cs hu=> ?_
 simp only [Try.ntmps94,List.size_toArray,List.length_cons,List.length_nil,Nat.reduceAdd,Nat.reduceSub,Array.replicate_succ,Array.replicate_zero,List.push_toArray,List.append_toArray,List.nil_append,List.cons_append]
 apply wpS_seq
 apply wpS_region
 simp [wpOpsS,go_sem,recoverD,hu,Exit.thenS]
 apply wpS_seq
 apply wpS_region
 simp [wpOpsS,go_sem,Exit.thenS,Abz]
 refine wpS_cond (t:=false) (by simp [Act.eval]) ?_;simp only [Bool.false_eq_true,if_false];refine wpS_of_wp (wp_skip ?_)
 cases c₀
 simp_all [bodyPostS,results,Try.results94]
theorem aX.Aos (A0:Option Addr) (c0:Nat) (l0:List Int) (w:World) (hr0:Kd.C (Kd.int .u8) w A0 l0.length l0) (hc0:l0.length<=c0) (h:(l0.length:Int)<20):
  Calls Try.prog 95 #[.slice A0 l0.length c0] w fun e w'=>e= .panicked [{v:= .iface 163 (.agg #[.int .i64 20]),recovered:=false}] /\ Below w.heap.size w w':=by
 have O4:=Try.underlying73;have gj:=aa.mk hr0;have jx:=aa.mk hc0;clear hr0 hc0;have HB:=gI w;have iB:decide ((l0.length:Int)>=20)=false:=gN (by omega);have HD:=aa.mk iB;clear iB h
 go_enter Try.func95,Try.ntmps95
 go_wp2_with (first|((with_reducible refine aA (N:=2) rfl ?_);refine aC ?hg (N:=2) ?hd (cs:=jL) (t:=73) ?hr ?_;(case hd=>rfl);(case hg=>rfl);(case hr=>first|(go_simp;done)|(go_simp;rfl));intro eT hg w6 bJ hb;have aH:=aa.mk (au (bz HB) hb);have aK:=aa.mk (bJ);have bt:=aa.mk ((by rw [hg];exact (af (bz HB)):w.heap.size<=eT));have cC:=aa.mk ((by rw [hg];exact (af (bz HB)):w.heap.size<=eT));clear HB;have HB:=aH;have eW:=aK;have fO:=bt;have Nk:=cC;clear aH aK bt cC;clear hb bJ hg)|((with_reducible refine az (f:=117) rfl ?_);refine da.FC (some 9) rfl rfl Try.func117 (by kernel_rfl) rfl #[.bool (decide ((l0.length:Int)>=20)),.int .i64 20] rfl (by (try simp only [List.map_toArray,List.map_cons,List.map_nil]);first|done|rfl|(simp only [List.length_drop,List.length_take];rfl)|(go_simp;done)|(simp [Act.eval,IntKind.signed];done)|(simp [Act.eval,IntKind.signed];rfl)) ?_;(with_reducible refine (dW.panics (decide ((l0.length:Int)>=20)) 20 _ HD.out).mono ?_);rintro e w' ⟨rfl,⟨nd,rfl⟩⟩;refine ⟨_,rfl, ?_⟩;exact ⟨rfl,rfl,bz HB⟩))
theorem aX.Aot (pZ:Int) (A0:Option Addr) (c0:Nat) (l0:List Int) (w:World) (hr0:Kd.C (Kd.int .u8) w A0 l0.length l0) (hc0:l0.length<=c0) (hlen:(l0.length:Int)>=20) (h2:dD.f l0 2=some pZ) (hf:¬ ((rd l0 0) / 16=4 /\ (wrap64 (4*(wrap64 (Go.bits .and .u8 (rd l0 0) 15))))>=20 /\ (wrap64 (pZ))>=(wrap64 (4*(wrap64 (Go.bits .and .u8 (rd l0 0) 15)))))):
  Calls Try.prog 95 #[.slice A0 l0.length c0] w fun e w'=>e= .panicked [{v:= .iface 163 (.agg #[.int .i64 21]),recovered:=false}] /\ Below w.heap.size w w':=by
 have O4:=Try.underlying73;have gj:=aa.mk hr0;have jx:=aa.mk hc0;clear hr0 hc0;have HB:=gI w;have HF:=aa.mk hf;clear hf;have A2:aa (dW.f (decide ((l0.length:Int)>=20)) 20=some ()):=⟨by unfold dW.f;rw [bN hlen,aq rfl]⟩
 have A4:=aa.mk h2;have oJ:decide (0<(l0.length:Int))=true:=bN (by omega);have qI:decide (0<l0.length)=true:=bN (by omega);clear hlen h2
 go_enter Try.func95,Try.ntmps95
 try go_wp2_with (first|((with_reducible refine aA (N:=2) rfl ?_);refine aC ?hg (N:=2) ?hd (cs:=jL) (t:=73) ?hr ?_;(case hd=>rfl);(case hg=>rfl);(case hr=>first|(go_simp;done)|(go_simp;rfl));intro eT hg w6 bJ hb;have aH:=aa.mk (au (bz HB) hb);have aK:=aa.mk (bJ);have bt:=aa.mk ((by rw [hg];exact (af (bz HB)):w.heap.size<=eT));have cC:=aa.mk ((by rw [hg];exact (af (bz HB)):w.heap.size<=eT));clear HB;have HB:=aH;have eW:=aK;have fO:=bt;have Nk:=cC;clear aH aK bt cC;clear hb bJ hg)|((with_reducible refine az (f:=117) rfl ?_);refine gL 9 Try.func117 #[.bool (decide ((l0.length:Int)>=20)),.int .i64 20] ?_;(with_reducible refine (dW.calls (decide ((l0.length:Int)>=20)) 20 _ A2.out).mono ?_);rintro e w' ⟨rfl,⟨nd,rfl⟩⟩;refine ⟨_,rfl, ?_⟩))
 (try (rw [fu w6];generalize jK:World.drewN w6 _=w6;have aH:aa (w6.heap[eT]?=some (.cells jL 73 (0,0))):=⟨by rw [<- jK];exact (kz eW)⟩;have aK:aa (Below w.heap.size w w6):=⟨by rw [<- jK];exact bz HB⟩;clear eW HB jK;have eW:=aH;have HB:=aK;clear aH aK))
 have aH:=aa.mk (aJ eW.out);have aK:=aa.mk (bf HB.out);clear eW;clear HB;have eW:=aH;have HB:=aK;clear aH aK;have yn:0<=(0:Int):=(by omega)
 have yo:0<(l0.length:Int):=gA;obtain ⟨je,Ly,gP⟩:=Kd.dG gj.out 0 yn yo;have gR:=gP
 (try rw [show ((0:Int)).toNat=0 from rfl] at gR)
 (try rw [show 0*1=0 from rfl] at gR)
 (try rw [Addr.add_zero'] at gR)
 cases Ly
 have RG:(0<l0.length)=True:=eq_true (by omega)
 (try rw [show ((0:Int)).toNat=0 from rfl] at gP)
 (try rw [Addr.add_zero'] at gP)
 replace gP:=(HB.out.cell (dF w _ gP)).trans gP;replace yn:=eq_true yn;replace yo:=eq_true yo;refine dB (n:=11) (S:=fun w'=>w'.cell? je=some (.int .u8 (rd l0 0))) (ds:=[]) #[false,false,false,false,false,false,false,false,false,false,false] (by kernel_rfl) rfl rfl (((HB.out.cell (dF w _ gR)).trans gR)) (fun hHeld=> ?_);refine bF aX.VK aX.Nh (fun ax eu=> ?_);generalize w6.drew=w7 at eW HB gP hHeld|-
 refine pz 0 10 ax ?_;refine pz 1 11 ax ?_;refine pz 6 16 ax ?_;refine tz 2 12 ax eu hHeld ?_;refine pz 3 13 ax ?_;refine pz 4 14 ax ?_;refine pz 5 15 ax ?_;refine oz 7 (some 17) ax (fun K hK=> ?_);refine gG Try.func118 #[.slice (some je) l0.length c0,.int .i64 2] ?_
 with_reducible refine (dD.calls _ _ l0 2 pZ _ ?aE ?aG A4.out).mono ?_
 (case aE=>exact Kd.aW gj.out (bz HB))
 (case aG=>exact jx.out)
 rintro e w' ⟨rfl,⟨nd,rfl⟩⟩;refine ⟨_,rfl, ?_⟩;refine hK.out _ _ (((HB.out.cell (dF w _ gR)).trans gR)) (fun hHeld=> ?_);clear hK K;refine nz 17 ?_;refine pz 8 18 ax ?_;refine pz 9 3 ax ?_;refine pz 10 4 ax ?_;refine dz ax ?_
 go_upto_region 3 with (fail)
 by_cases c8:((rd l0 0) / 16)=4
 ·have nU:(((rd l0 0) / 16)==4)=true:=fF c8
  have Dl:(((rd l0 0) / 16) !=4)=false:=kL c8
  (first|rw [nU]|(simp only [gK,kD];rw [nU])|skip)
  by_cases c9:(wrap64 (4*(wrap64 (Go.bits .and .u8 (rd l0 0) 15))))>=20
  ·have wW:decide (20<=(wrap64 (4*(wrap64 (Go.bits .and .u8 (rd l0 0) 15)))))=true:=bN c9
   have iB:decide ((wrap64 (pZ))>=(wrap64 (4*(wrap64 (Go.bits .and .u8 (rd l0 0) 15)))))=false:=gN (fun hx=>HF.out ⟨c8,c9,hx⟩);have HD:=aa.mk iB;clear iB c8 c9;have oM:0<=(0:Int):=(by omega)
   have oO:0<(l0.length:Int):=gA;obtain ⟨sy,yZ,eK⟩:=Kd.dG gj.out 0 oM oO;obtain rfl:je=sy:=(by injection yZ)
   have Dr:(0<l0.length)=True:=eq_true (by omega)
   (try rw [show ((0:Int)).toNat=0 from rfl] at eK)
   (try rw [Addr.add_zero'] at eK)
   replace eK:=(HB.out.cell (dF w _ eK)).trans eK;replace oM:=eq_true oM;replace oO:=eq_true oO
   go_wp2_with (first|((with_reducible refine az (f:=117) rfl ?_);refine da.FC (some 33) rfl rfl Try.func117 (by kernel_rfl) rfl #[.bool (decide ((wrap64 (pZ))>=(wrap64 (4*(wrap64 (Go.bits .and .u8 (rd l0 0) 15)))))),.int .i64 21] rfl (by (try simp only [List.map_toArray,List.map_cons,List.map_nil]);first|done|rfl|(simp only [List.length_drop,List.length_take];rfl)|(go_simp;done)|(simp [Act.eval,IntKind.signed];done)|(simp [Act.eval,IntKind.signed];rfl)) ?_;(with_reducible refine (dW.panics (decide ((wrap64 (pZ))>=(wrap64 (4*(wrap64 (Go.bits .and .u8 (rd l0 0) 15)))))) 21 _ HD.out).mono ?_);rintro e w' ⟨rfl,⟨nd,rfl⟩⟩;refine ⟨_,rfl, ?_⟩;exact ⟨rfl,rfl,bz HB⟩))
  have wW:decide (20<=(wrap64 (4*(wrap64 (Go.bits .and .u8 (rd l0 0) 15)))))=false:=gN c9
  clear c8 c9;have oM:0<=(0:Int):=(by omega)
  have oO:0<(l0.length:Int):=gA;obtain ⟨sy,yZ,eK⟩:=Kd.dG gj.out 0 oM oO;obtain rfl:je=sy:=(by injection yZ)
  have Dr:(0<l0.length)=True:=eq_true (by omega)
  (try rw [show ((0:Int)).toNat=0 from rfl] at eK)
  (try rw [Addr.add_zero'] at eK)
  replace eK:=(HB.out.cell (dF w _ eK)).trans eK;replace oM:=eq_true oM;replace oO:=eq_true oO
  go_wp2_with (first|((with_reducible refine az (f:=117) rfl ?_);refine da.FC (some 33) rfl rfl Try.func117 (by kernel_rfl) rfl #[.bool false,.int .i64 21] rfl (by (try simp only [List.map_toArray,List.map_cons,List.map_nil]);first|done|rfl|(simp only [List.length_drop,List.length_take];rfl)|(go_simp;done)|(simp [Act.eval,IntKind.signed];done)|(simp [Act.eval,IntKind.signed];rfl)) ?_;(with_reducible refine (dW.panics false 21 _ rfl).mono ?_);rintro e w' ⟨rfl,⟨nd,rfl⟩⟩;refine ⟨_,rfl, ?_⟩;exact ⟨rfl,rfl,bz HB⟩))
 have nU:(((rd l0 0) / 16)==4)=false:=fq c8
 have Dl:(((rd l0 0) / 16) !=4)=true:=lf c8
 (first|rw [nU]|(simp only [gK,kD];rw [nU])|skip)
 clear c8;have oM:0<=(0:Int):=(by omega)
 have oO:0<(l0.length:Int):=gA;obtain ⟨sy,yZ,eK⟩:=Kd.dG gj.out 0 oM oO;obtain rfl:je=sy:=(by injection yZ)
 have Dr:(0<l0.length)=True:=eq_true (by omega)
 (try rw [show ((0:Int)).toNat=0 from rfl] at eK)
 (try rw [Addr.add_zero'] at eK)
 replace eK:=(HB.out.cell (dF w _ eK)).trans eK;replace oM:=eq_true oM;replace oO:=eq_true oO
 go_wp2_with (first|((with_reducible refine az (f:=117) rfl ?_);refine da.FC (some 33) rfl rfl Try.func117 (by kernel_rfl) rfl #[.bool false,.int .i64 21] rfl (by (try simp only [List.map_toArray,List.map_cons,List.map_nil]);first|done|rfl|(simp only [List.length_drop,List.length_take];rfl)|(go_simp;done)|(simp [Act.eval,IntKind.signed];done)|(simp [Act.eval,IntKind.signed];rfl)) ?_;(with_reducible refine (dW.panics false 21 _ rfl).mono ?_);rintro e w' ⟨rfl,⟨nd,rfl⟩⟩;refine ⟨_,rfl, ?_⟩;exact ⟨rfl,rfl,bz HB⟩))
theorem aX.Aou (pZ:Int) (A0:Option Addr) (c0:Nat) (l0:List Int) (w:World) (hr0:Kd.C (Kd.int .u8) w A0 l0.length l0) (hc0:l0.length<=c0) (hlen:(l0.length:Int)>=20) (h2:dD.f l0 2=some pZ) (hf:(rd l0 0) / 16=4 /\ (wrap64 (4*(wrap64 (Go.bits .and .u8 (rd l0 0) 15))))>=20 /\ (wrap64 (pZ))>=(wrap64 (4*(wrap64 (Go.bits .and .u8 (rd l0 0) 15))))) (hs:(l0.length:Int)<(wrap64 (pZ))):
  Calls Try.prog 95 #[.slice A0 l0.length c0] w fun e w'=>e= .panicked [{v:= .iface 163 (.agg #[.int .i64 20]),recovered:=false}] /\ Below w.heap.size w w':=by
 have O4:=Try.underlying73;have gj:=aa.mk hr0;have jx:=aa.mk hc0;clear hr0 hc0;have HB:=gI w;have iB:decide ((l0.length:Int)>=(wrap64 (pZ)))=false:=gN (by omega);have HD:=aa.mk iB;clear iB hs;have Lz:aa (dW.f (decide ((wrap64 (pZ))>=(wrap64 (4*(wrap64 (Go.bits .and .u8 (rd l0 0) 15)))))) 21=some ()):=⟨by unfold dW.f;rw [bN hf.2.2,aq rfl]⟩
 have nU:(((rd l0 0) / 16)==4)=true:=fF hf.1;have Dl:(((rd l0 0) / 16) !=4)=false:=kL hf.1;have wW:decide (20<=(wrap64 (4*(wrap64 (Go.bits .and .u8 (rd l0 0) 15)))))=true:=bN hf.2.1;clear hf;have A2:aa (dW.f (decide ((l0.length:Int)>=20)) 20=some ()):=⟨by unfold dW.f;rw [bN hlen,aq rfl]⟩
 have A4:=aa.mk h2;have oJ:decide (0<(l0.length:Int))=true:=bN (by omega);have qI:decide (0<l0.length)=true:=bN (by omega);clear hlen h2
 go_enter Try.func95,Try.ntmps95
 try go_wp2_with (first|((with_reducible refine aA (N:=2) rfl ?_);refine aC ?hg (N:=2) ?hd (cs:=jL) (t:=73) ?hr ?_;(case hd=>rfl);(case hg=>rfl);(case hr=>first|(go_simp;done)|(go_simp;rfl));intro eT hg w6 bJ hb;have aH:=aa.mk (au (bz HB) hb);have aK:=aa.mk (bJ);have bt:=aa.mk ((by rw [hg];exact (af (bz HB)):w.heap.size<=eT));have cC:=aa.mk ((by rw [hg];exact (af (bz HB)):w.heap.size<=eT));clear HB;have HB:=aH;have eW:=aK;have fO:=bt;have Nk:=cC;clear aH aK bt cC;clear hb bJ hg)|((with_reducible refine az (f:=117) rfl ?_);refine gL 9 Try.func117 #[.bool (decide ((l0.length:Int)>=20)),.int .i64 20] ?_;(with_reducible refine (dW.calls (decide ((l0.length:Int)>=20)) 20 _ A2.out).mono ?_);rintro e w' ⟨rfl,⟨nd,rfl⟩⟩;refine ⟨_,rfl, ?_⟩))
 (try (rw [fu w6];generalize jK:World.drewN w6 _=w6;have aH:aa (w6.heap[eT]?=some (.cells jL 73 (0,0))):=⟨by rw [<- jK];exact (kz eW)⟩;have aK:aa (Below w.heap.size w w6):=⟨by rw [<- jK];exact bz HB⟩;clear eW HB jK;have eW:=aH;have HB:=aK;clear aH aK))
 have aH:=aa.mk (aJ eW.out);have aK:=aa.mk (bf HB.out);clear eW;clear HB;have eW:=aH;have HB:=aK;clear aH aK;have yn:0<=(0:Int):=(by omega)
 have yo:0<(l0.length:Int):=gA;obtain ⟨je,Ly,gP⟩:=Kd.dG gj.out 0 yn yo;have gR:=gP
 (try rw [show ((0:Int)).toNat=0 from rfl] at gR)
 (try rw [show 0*1=0 from rfl] at gR)
 (try rw [Addr.add_zero'] at gR)
 cases Ly
 have RG:(0<l0.length)=True:=eq_true (by omega)
 (try rw [show ((0:Int)).toNat=0 from rfl] at gP)
 (try rw [Addr.add_zero'] at gP)
 replace gP:=(HB.out.cell (dF w _ gP)).trans gP;replace yn:=eq_true yn;replace yo:=eq_true yo;refine dB (n:=11) (S:=fun w'=>w'.cell? je=some (.int .u8 (rd l0 0))) (ds:=[]) #[false,false,false,false,false,false,false,false,false,false,false] (by kernel_rfl) rfl rfl (((HB.out.cell (dF w _ gR)).trans gR)) (fun hHeld=> ?_);refine bF aX.VK aX.Nh (fun ax eu=> ?_);generalize w6.drew=w7 at eW HB gP hHeld|-
 refine pz 0 10 ax ?_;refine pz 1 11 ax ?_;refine pz 6 16 ax ?_;refine tz 2 12 ax eu hHeld ?_;refine pz 3 13 ax ?_;refine pz 4 14 ax ?_;refine pz 5 15 ax ?_;refine oz 7 (some 17) ax (fun K hK=> ?_);refine gG Try.func118 #[.slice (some je) l0.length c0,.int .i64 2] ?_
 with_reducible refine (dD.calls _ _ l0 2 pZ _ ?aE ?aG A4.out).mono ?_
 (case aE=>exact Kd.aW gj.out (bz HB))
 (case aG=>exact jx.out)
 rintro e w' ⟨rfl,⟨nd,rfl⟩⟩;refine ⟨_,rfl, ?_⟩;refine hK.out _ _ (((HB.out.cell (dF w _ gR)).trans gR)) (fun hHeld=> ?_);clear hK K;refine nz 17 ?_;refine pz 8 18 ax ?_;refine pz 9 3 ax ?_;refine pz 10 4 ax ?_;refine dz ax ?_
 go_upto_region 3 with (fail)
 (first|rw [nU]|(simp only [gK,kD];rw [nU])|skip)
 have oM:0<=(0:Int):=(by omega)
 have oO:0<(l0.length:Int):=gA;obtain ⟨sy,yZ,eK⟩:=Kd.dG gj.out 0 oM oO;obtain rfl:je=sy:=(by injection yZ)
 have Dr:(0<l0.length)=True:=eq_true (by omega)
 (try rw [show ((0:Int)).toNat=0 from rfl] at eK)
 (try rw [Addr.add_zero'] at eK)
 replace eK:=(HB.out.cell (dF w _ eK)).trans eK;replace oM:=eq_true oM;replace oO:=eq_true oO
 go_wp2_with (first|((with_reducible refine az (f:=117) rfl ?_);refine gL 33 Try.func117 #[.bool (decide ((wrap64 (pZ))>=(wrap64 (4*(wrap64 (Go.bits .and .u8 (rd l0 0) 15)))))),.int .i64 21] ?_;(with_reducible refine (dW.calls (decide ((wrap64 (pZ))>=(wrap64 (4*(wrap64 (Go.bits .and .u8 (rd l0 0) 15)))))) 21 _ Lz.out).mono ?_);rintro e w' ⟨rfl,⟨nd,rfl⟩⟩;refine ⟨_,rfl, ?_⟩)|((with_reducible refine az (f:=117) rfl ?_);refine da.FC (some 38) rfl rfl Try.func117 (by kernel_rfl) rfl #[.bool (decide ((l0.length:Int)>=(wrap64 (pZ)))),.int .i64 20] rfl (by (try simp only [List.map_toArray,List.map_cons,List.map_nil]);first|done|rfl|(simp only [List.length_drop,List.length_take];rfl)|(go_simp;done)|(simp [Act.eval,IntKind.signed];done)|(simp [Act.eval,IntKind.signed];rfl)) ?_;(with_reducible refine (dW.panics (decide ((l0.length:Int)>=(wrap64 (pZ)))) 20 _ HD.out).mono ?_);rintro e w' ⟨rfl,⟨nd,rfl⟩⟩;refine ⟨_,rfl, ?_⟩;exact ⟨rfl,rfl,bz HB⟩))
theorem aX.Aov (k:Nat) (pZ RY O6:Int) (A0:Option Addr) (c0:Nat) (l0:List Int) (w:World) (hr0:Kd.C (Kd.int .u8) w A0 l0.length l0) (hc0:l0.length<=c0) (hlen:(l0.length:Int)>=20) (h2:dD.f l0 2=some pZ) (hf:(rd l0 0) / 16=4 /\ (wrap64 (4*(wrap64 (Go.bits .and .u8 (rd l0 0) 15))))>=20 /\ (wrap64 (pZ))>=(wrap64 (4*(wrap64 (Go.bits .and .u8 (rd l0 0) 15))))) (hs:(l0.length:Int)>=(wrap64 (pZ))) (ha:gE.f k 0 (l0.take ((wrap64 (4*(wrap64 (Go.bits .and .u8 (rd l0 0) 15)))):Int).toNat)=some RY) (ai:dU.f k RY=some O6) (hx:O6≠65535):
  Calls Try.prog 95 #[.slice A0 l0.length c0] w fun e w'=>e= .panicked [{v:= .iface 163 (.agg #[.int .i64 22]),recovered:=false}] /\ Below w.heap.size w w':=by
 have O4:=Try.underlying73;have gj:=aa.mk hr0;have jx:=aa.mk hc0;clear hr0 hc0;have HB:=gI w;have HD:aa ((O6==65535)=false):=⟨fq hx⟩
 clear hx;have Qp:aa (dW.f (decide ((l0.length:Int)>=(wrap64 (pZ)))) 20=some ()):=⟨by unfold dW.f;rw [bN hs,aq rfl]⟩
 have Qr:=aa.mk ha;have OY:=aa.mk ai;have Fz:decide (0<=(wrap64 (4*(wrap64 (Go.bits .and .u8 (rd l0 0) 15)))))=true:=bN (by omega);have Nl:decide ((wrap64 (4*(wrap64 (Go.bits .and .u8 (rd l0 0) 15))))<=(l0.length:Int))=true:=bN (by omega);have wT:=eq_true (of_decide_eq_true Fz);have RH:=eq_true (of_decide_eq_true Nl);have Lz:aa (dW.f (decide ((wrap64 (pZ))>=(wrap64 (4*(wrap64 (Go.bits .and .u8 (rd l0 0) 15)))))) 21=some ()):=⟨by unfold dW.f;rw [bN hf.2.2,aq rfl]⟩
 have nU:(((rd l0 0) / 16)==4)=true:=fF hf.1;have Dl:(((rd l0 0) / 16) !=4)=false:=kL hf.1;have wW:decide (20<=(wrap64 (4*(wrap64 (Go.bits .and .u8 (rd l0 0) 15)))))=true:=bN hf.2.1;clear hf hs ha ai;have A2:aa (dW.f (decide ((l0.length:Int)>=20)) 20=some ()):=⟨by unfold dW.f;rw [bN hlen,aq rfl]⟩
 have A4:=aa.mk h2;have oJ:decide (0<(l0.length:Int))=true:=bN (by omega);have qI:decide (0<l0.length)=true:=bN (by omega);clear hlen h2
 go_enter Try.func95,Try.ntmps95
 try go_wp2_with (first|((with_reducible refine aA (N:=2) rfl ?_);refine aC ?hg (N:=2) ?hd (cs:=jL) (t:=73) ?hr ?_;(case hd=>rfl);(case hg=>rfl);(case hr=>first|(go_simp;done)|(go_simp;rfl));intro eT hg w6 bJ hb;have aH:=aa.mk (au (bz HB) hb);have aK:=aa.mk (bJ);have bt:=aa.mk ((by rw [hg];exact (af (bz HB)):w.heap.size<=eT));have cC:=aa.mk ((by rw [hg];exact (af (bz HB)):w.heap.size<=eT));clear HB;have HB:=aH;have eW:=aK;have fO:=bt;have Nk:=cC;clear aH aK bt cC;clear hb bJ hg)|((with_reducible refine az (f:=117) rfl ?_);refine gL 9 Try.func117 #[.bool (decide ((l0.length:Int)>=20)),.int .i64 20] ?_;(with_reducible refine (dW.calls (decide ((l0.length:Int)>=20)) 20 _ A2.out).mono ?_);rintro e w' ⟨rfl,⟨nd,rfl⟩⟩;refine ⟨_,rfl, ?_⟩))
 (try (rw [fu w6];generalize jK:World.drewN w6 _=w6;have aH:aa (w6.heap[eT]?=some (.cells jL 73 (0,0))):=⟨by rw [<- jK];exact (kz eW)⟩;have aK:aa (Below w.heap.size w w6):=⟨by rw [<- jK];exact bz HB⟩;clear eW HB jK;have eW:=aH;have HB:=aK;clear aH aK))
 have aH:=aa.mk (aJ eW.out);have aK:=aa.mk (bf HB.out);clear eW;clear HB;have eW:=aH;have HB:=aK;clear aH aK;have yn:0<=(0:Int):=(by omega)
 have yo:0<(l0.length:Int):=gA;obtain ⟨je,Ly,gP⟩:=Kd.dG gj.out 0 yn yo;have gR:=gP
 (try rw [show ((0:Int)).toNat=0 from rfl] at gR)
 (try rw [show 0*1=0 from rfl] at gR)
 (try rw [Addr.add_zero'] at gR)
 cases Ly
 have RG:(0<l0.length)=True:=eq_true (by omega)
 (try rw [show ((0:Int)).toNat=0 from rfl] at gP)
 (try rw [Addr.add_zero'] at gP)
 replace gP:=(HB.out.cell (dF w _ gP)).trans gP;replace yn:=eq_true yn;replace yo:=eq_true yo;refine dB (n:=11) (S:=fun w'=>w'.cell? je=some (.int .u8 (rd l0 0))) (ds:=[]) #[false,false,false,false,false,false,false,false,false,false,false] (by kernel_rfl) rfl rfl (((HB.out.cell (dF w _ gR)).trans gR)) (fun hHeld=> ?_);refine bF aX.VK aX.Nh (fun ax eu=> ?_);generalize w6.drew=w7 at eW HB gP hHeld|-
 refine pz 0 10 ax ?_;refine pz 1 11 ax ?_;refine pz 6 16 ax ?_;refine tz 2 12 ax eu hHeld ?_;refine pz 3 13 ax ?_;refine pz 4 14 ax ?_;refine pz 5 15 ax ?_;refine oz 7 (some 17) ax (fun K hK=> ?_);refine gG Try.func118 #[.slice (some je) l0.length c0,.int .i64 2] ?_
 with_reducible refine (dD.calls _ _ l0 2 pZ _ ?aE ?aG A4.out).mono ?_
 (case aE=>exact Kd.aW gj.out (bz HB))
 (case aG=>exact jx.out)
 rintro e w' ⟨rfl,⟨nd,rfl⟩⟩;refine ⟨_,rfl, ?_⟩;refine hK.out _ _ (((HB.out.cell (dF w _ gR)).trans gR)) (fun hHeld=> ?_);clear hK K;refine nz 17 ?_;refine pz 8 18 ax ?_;refine pz 9 3 ax ?_;refine pz 10 4 ax ?_;refine dz ax ?_
 go_upto_region 3 with (fail)
 (first|rw [nU]|(simp only [gK,kD];rw [nU])|skip)
 have oM:0<=(0:Int):=(by omega)
 have oO:0<(l0.length:Int):=gA;obtain ⟨sy,yZ,eK⟩:=Kd.dG gj.out 0 oM oO;obtain rfl:je=sy:=(by injection yZ)
 have Dr:(0<l0.length)=True:=eq_true (by omega)
 (try rw [show ((0:Int)).toNat=0 from rfl] at eK)
 (try rw [Addr.add_zero'] at eK)
 replace eK:=(HB.out.cell (dF w _ eK)).trans eK;replace oM:=eq_true oM;replace oO:=eq_true oO
 go_upto_region 4 with (first|((with_reducible refine az (f:=117) rfl ?_);refine gL 33 Try.func117 #[.bool (decide ((wrap64 (pZ))>=(wrap64 (4*(wrap64 (Go.bits .and .u8 (rd l0 0) 15)))))),.int .i64 21] ?_;(with_reducible refine (dW.calls (decide ((wrap64 (pZ))>=(wrap64 (4*(wrap64 (Go.bits .and .u8 (rd l0 0) 15)))))) 21 _ Lz.out).mono ?_);rintro e w' ⟨rfl,⟨nd,rfl⟩⟩;refine ⟨_,rfl, ?_⟩))
 obtain ⟨lF,wE⟩:∃ j_:Int,(wrap64 (4*(wrap64 (Go.bits .and .u8 (rd l0 0) 15))))=j_:=⟨_,rfl⟩
 rw [wE] at Qr Fz Nl wT RH
 have Abm:(IntKind.i64.wrap (4*(wrap64 (Go.bits .and .u8 (rd l0 0) 15))))=lF:=(gK _).trans wE
 go_wp2_with (first|((with_reducible refine az (f:=117) rfl ?_);refine gL 38 Try.func117 #[.bool (decide ((l0.length:Int)>=(wrap64 (pZ)))),.int .i64 20] ?_;(with_reducible refine (dW.calls (decide ((l0.length:Int)>=(wrap64 (pZ)))) 20 _ Qp.out).mono ?_);rintro e w' ⟨rfl,⟨nd,rfl⟩⟩;refine ⟨_,rfl, ?_⟩;(try (rw [fu w7];generalize jK:World.drewN wc _=w7;have aH:aa (w7.heap[eT]?=some (.cells jL 73 (0,0))):=⟨by rw [<- jK];exact (kz eW)⟩;have aK:aa (Below w.heap.size w w7):=⟨by rw [<- jK];exact bz HB⟩;clear eW HB jK;have eW:=aH;have HB:=aK;clear aH aK));obtain ⟨An8,Ji,_,Jj,_⟩:=info_parts fY;obtain ⟨Abo,RM,RN⟩:=ow (P:=Try.prog) (Value.int .u8) 0 165 5 .i64 Try.underlying165 Ji Jj (some je) c0 l0 (lF) gA gA jx.out;have RO:=aa.mk (Kd.dH (h1:=fun _=>rfl) (RM _ (Kd.dw gj.out)));have RP:=aa.mk RN;clear RM RN Ji Jj)|((with_reducible refine az (f:=116) rfl ?_);refine uf (some 42) rfl rfl Try.func116 (by kernel_rfl) rfl #[.int .u32 0,.slice (some je) (l0.take ((lF):Int).toNat).length c0] rfl (by (try simp only [List.map_toArray,List.map_cons,List.map_nil]);first|done|(rw [show (l0.take ((lF):Int).toNat).length=(lF).toNat from (by rw [List.length_take];have h_:((lF):Int)<=(l0.length:Int):=gA;omega)]<;>rfl)|(simp only [wE];rfl)|rfl|(simp only [List.length_drop,List.length_take];rfl)|(go_simp;done)|(simp [Act.eval,IntKind.signed];done)|(simp [Act.eval,IntKind.signed];rfl)) ?_;(with_reducible refine (gE.calls k 0 _ _ (l0.take ((lF):Int).toNat) RY _ ?aE ?aG Qr.out).mono ?_);(case aE=>exact Kd.aW RO.out (bz HB));(case aG=>exact RP.out);rintro e AX ⟨rfl,hb⟩;refine ⟨_,rfl, ?_⟩;have aH:=aa.mk (bq (kz eW) hb);have aK:=aa.mk (au (bz HB) hb);clear eW;clear HB;have eW:=aH;have HB:=aK;clear aH aK;(try clear hb);(try clear hb2);(try clear hk);(try clear hi))|((with_reducible refine az (f:=115) rfl ?_);refine gL 43 Try.func115 #[.int .u32 RY] ?_;(with_reducible refine (dU.calls k RY O6 _ OY.out).mono ?_);rintro e w' ⟨rfl,⟨nd,rfl⟩⟩;refine ⟨_,rfl, ?_⟩;(try (rw [fu AX];generalize jK:World.drewN AX _=AX;have aH:aa (AX.heap[eT]?=some (.cells jL 73 (0,0))):=⟨by rw [<- jK];exact (kz eW)⟩;have aK:aa (Below w.heap.size w AX):=⟨by rw [<- jK];exact bz HB⟩;clear eW HB jK;have eW:=aH;have HB:=aK;clear aH aK)))|((with_reducible refine az (f:=117) rfl ?_);refine da.FC (some 45) rfl rfl Try.func117 (by kernel_rfl) rfl #[.bool (O6==65535),.int .i64 22] rfl (by (try simp only [List.map_toArray,List.map_cons,List.map_nil]);first|done|rfl|(simp only [List.length_drop,List.length_take];rfl)|(go_simp;done)|(simp [Act.eval,IntKind.signed];done)|(simp [Act.eval,IntKind.signed];rfl)) ?_;(with_reducible refine (dW.panics (O6==65535) 22 _ HD.out).mono ?_);rintro e w' ⟨rfl,⟨nd,rfl⟩⟩;refine ⟨_,rfl, ?_⟩;exact ⟨rfl,rfl,bz HB⟩))
theorem da.told {tmps:Array Value} {w:World} {gp ge:Nat} {cs:Array Value} {x:Int} (hs:cs.size=10) (hp:tmps.getD 2 undef= .pointer (some ⟨gp,0,none⟩)) (hg:w.heap[gp]?=some (.cells cs 73 (0,0)))
  (he:tmps.getD 3 undef= .pointer (some ⟨ge,0,none⟩)) (hx:w.heap[ge]?=some (.cells #[.int .i64 x] 49 (0,0))):(results Try.f57 tmps).run Try.prog w= .ok (.tuple #[.agg cs,.int .i64 x]) w:=by
 have h1:tmps[2]?.getD undef= .pointer (some ⟨gp,0,none⟩):=by simpa using hp
 have h2:tmps[3]?.getD undef= .pointer (some ⟨ge,0,none⟩):=by simpa using he
 have hc:w.cell? ⟨ge,0,none⟩=some (.int .i64 x):=(aN hx 0).trans rfl
 have hl:(loadVar 49 ⟨ge,0,none⟩).run Try.prog w= .ok (.int .i64 x) w:=by
  have hu:=Try.underlying49;have hagg:(isAgg 49).run Try.prog w= .ok false w:=by kernel_rfl
  simp [loadVar,hu,hc,hagg]
 simp [results,Try.results57,h1,h2,asAddr,run_loadVar_row w gp 73 73 cs (0,0) _ hg Try.underlying73 rfl (by rw [hs];kernel_rfl),hl]
theorem da.fail (x:Int) (A0:Option Addr) (c0 n:Nat) (w:World) (hp:∀ W,Below w.heap.size w W ->Calls Try.prog 95 #[.slice A0 n c0] W fun e w'=>e= .panicked [{v:= .iface 163 (.agg #[.int .i64 x]),recovered:=false}] /\ Below W.heap.size W w'):
  Calls Try.prog 57 #[.slice A0 n c0] w fun e w'=>e= .returned (.tuple #[.agg jL,.int .i64 x]) /\ Below w.heap.size w w':=by
 have HB:=gI w;have HC:=aa.mk hp;clear hp;have hmf:∀ (fn:Fn) (first cap:Array Value) (w:World),(Instr.makeFunc fn first cap).run Try.prog w= .ok (.func fn first cap) w:=fun _ _ _ _=>rfl
 go_enter_defers Try.func57,Try.ntmps57
 go_wp2_with (first|((with_reducible refine aA (N:=2) rfl ?_);refine aC ?hg (N:=2) ?hd (cs:=jL) (t:=73) ?hr ?_;(case hd=>rfl);(case hg=>rfl);(case hr=>first|(go_simp;done)|(go_simp;rfl));intro gp hg w1 bJ hb;have aH:=aa.mk (au (bz HB) hb);have HP:=aa.mk bJ;have GP:=aa.mk ((by rw [hg];exact (af (bz HB))):w.heap.size<=gp);clear HB;have HB:=aH;clear aH hb bJ hg)|((with_reducible refine aA (N:=3) rfl ?_);refine aC ?hg (N:=3) ?hd (cs:= #[.int .i64 0]) (t:=49) ?hr ?_;(case hd=>rfl);(case hg=>rfl);(case hr=>first|(go_simp;done)|(go_simp;rfl));intro ge hg w2 bJ hb;have GN:=aa.mk (show gp≠ge by rw [hg];exact Nat.ne_of_lt (lZ (kz HP)));have aK:=aa.mk (bq (kz HP) hb);have aH:=aa.mk (au (bz HB) hb);have HE:=aa.mk bJ;have GE:=aa.mk ((by rw [hg];exact (af (bz HB))):w.heap.size<=ge);clear HB HP;have HB:=aH;have HP:=aK;clear aH aK hb bJ hg))
 refine (HC.out _ (bz HB)).mono ?_;rintro e w' ⟨rfl,hb⟩;have Cx:=aa.mk (bq (kz HP) hb);have HE3:=aa.mk (bq (kz HE) hb);have HB3:=aa.mk (au (bz HB) hb);clear hb HP HE HB
 show Leaves _ _ _ _ _ _ _
 refine leaves_cons (f:=94) (args:= #[.pointer (some ⟨gp,0,none⟩),.pointer (some ⟨ge,0,none⟩)]) (by simp) (by simp [go_sem]) ?_;refine (da.Cb x w w' w.heap.size gp ge Cx.out HE3.out GN.out HB3.out GP.out GE.out).mono ?_;rintro e u' w'' ⟨rfl,rfl,f1,f2,f3⟩;exact ⟨_,da.told rfl rfl f1 rfl f2,rfl,f3⟩
theorem da.done (k:Nat) (A0:Option Addr) (c0:Nat) (l0:List Int) (r1:Int) (r2:Int) (r3:Int) (r4:Int) (r5:Int) (r6:Int) (r7:Int) (r8:Int) (r9:List Int) (uL:List Int) (w:World) (hr0:Kd.C (Kd.int .u8) w A0 l0.length l0) (hc0:l0.length<=c0) (h:aX.f k l0=some (r1,r2,r3,r4,r5,r6,r7,r8,r9,uL)):
  Calls Try.prog 57 #[.slice A0 l0.length c0] w fun e w'=>∃ Cv Cw:Value,e= .returned (.tuple #[.agg #[.int .u8 r1,.int .u8 r2,.int .u8 r3,.int .u16 r4,.int .u8 r5,.int .u16 r6,.int .u32 r7,.int .u32 r8,Cv,Cw],.int .i64 0]) /\ Kd.R (Kd.int .u8) 5 w' w.heap.size (fun k_=>some k_≠(Cw:Value).ownBlock) Cv r9 /\ Kd.R (Kd.int .u8) 5 w' w.heap.size (fun k_=>some k_≠(Cv:Value).ownBlock) Cw uL /\ Below w.heap.size w w':=by
 have HB:=gI w;have gj:=aa.mk hr0;have jx:=aa.mk hc0;have HH:=aa.mk h;clear hr0 hc0 h;have O4:=Try.underlying73;have hmf:∀ (fn:Fn) (first cap:Array Value) (w:World),(Instr.makeFunc fn first cap).run Try.prog w= .ok (.func fn first cap) w:=fun _ _ _ _=>rfl
 go_enter_defers Try.func57,Try.ntmps57
 go_wp2_with (first|((with_reducible refine aA (N:=2) rfl ?_);refine aC ?hg (N:=2) ?hd (cs:=jL) (t:=73) ?hr ?_;(case hd=>rfl);(case hg=>rfl);(case hr=>first|(go_simp;done)|(go_simp;rfl));intro gp hg w1 bJ hb;have aH:=aa.mk (au (bz HB) hb);have HP:=aa.mk bJ;have GP:=aa.mk ((by rw [hg];exact (af (bz HB))):w.heap.size<=gp);clear HB;have HB:=aH;clear aH hb bJ hg)|((with_reducible refine aA (N:=3) rfl ?_);refine aC ?hg (N:=3) ?hd (cs:= #[.int .i64 0]) (t:=49) ?hr ?_;(case hd=>rfl);(case hg=>rfl);(case hr=>first|(go_simp;done)|(go_simp;rfl));intro ge hg w2 bJ hb;have GN:=aa.mk (show gp≠ge by rw [hg];exact Nat.ne_of_lt (lZ (kz HP)));have aK:=aa.mk (bq (kz HP) hb);have aH:=aa.mk (au (bz HB) hb);have HE:=aa.mk bJ;have GE:=aa.mk ((by rw [hg];exact (af (bz HB))):w.heap.size<=ge);clear HB HP;have HB:=aH;have HP:=aK;clear aH aK hb bJ hg))
 refine (aX.calls k A0 c0 l0 r1 r2 r3 r4 r5 r6 r7 r8 r9 uL _ (Kd.aW gj.out (bz HB)) jx.out HH.out).mono ?_;rintro e w' ⟨Cv,Cw,rfl,E3,ym,hb⟩;obtain ⟨B8,d8,rfl⟩:=Kd.dn E3;obtain ⟨B9,d9,rfl⟩:=Kd.dn ym;have Cx:=aa.mk (bq (kz HP) hb);have HE3:=aa.mk (bq (kz HE) hb);have HB3:=aa.mk (au (bz HB) hb);have HLP:gp<w2.heap.size:=lZ HP.out;have Qs:ge<w2.heap.size:=lZ HE.out;have HS:w.heap.size<=w2.heap.size:=af (bz HB);have O8:=aa.mk E3;have O9:=aa.mk ym;clear hb HP HE HB E3 ym
 (try dsimp only)
 have hs0:w'.cell? ⟨gp,0,none⟩=some (.int .u8 0):=cz Cx.out 0 rfl;have LC:=ae Cx.out 0;have hs1:w'.cell? ⟨gp,1,none⟩=some (.int .u8 0):=cz Cx.out 1 rfl;have AbA:=ae Cx.out 1;have hs2:w'.cell? ⟨gp,2,none⟩=some (.int .u8 0):=cz Cx.out 2 rfl;have AbB:=ae Cx.out 2;have hs3:w'.cell? ⟨gp,3,none⟩=some (.int .u16 0):=cz Cx.out 3 rfl;have AbC:=ae Cx.out 3;have hs4:w'.cell? ⟨gp,4,none⟩=some (.int .u8 0):=cz Cx.out 4 rfl;have AbD:=ae Cx.out 4;have hs5:w'.cell? ⟨gp,5,none⟩=some (.int .u16 0):=cz Cx.out 5 rfl;have AbE:=ae Cx.out 5;have hs6:w'.cell? ⟨gp,6,none⟩=some (.int .u32 0):=cz Cx.out 6 rfl;have AbF:=ae Cx.out 6;have hs7:w'.cell? ⟨gp,7,none⟩=some (.int .u32 0):=cz Cx.out 7 rfl;have AbG:=ae Cx.out 7
 have hs8:w'.cell? ⟨gp,8,none⟩=some (.slice none 0 0):=cz Cx.out 8 rfl;have AbH:=ae Cx.out 8;have hs9:w'.cell? ⟨gp,9,none⟩=some (.slice none 0 0):=cz Cx.out 9 rfl;have AbI:=ae Cx.out 9;have hse:w'.cell? ⟨ge,0,none⟩=some (.int .i64 0):=cz HE3.out 0 rfl;have Aow:=ae HE3.out 0;have Af5:gp≠ge:=GN.out;have hneg:ge≠gp:=fun e=>Af5 e.symm
 go_wp2
 clear hs0 LC hs1 AbA hs2 AbB hs3 AbC hs4 AbD hs5 AbE hs6 AbF hs7 AbG hs8 AbH hs9 AbI;have b0:=Cx.out;have e0:=HE3.out;have l0_:=HB3.out;have u0:=O8.out;have t0:=O9.out;have b1:=bK (cs':= #[.int .u8 r1,.int .u8 0,.int .u8 0,.int .u16 0,.int .u8 0,.int .u16 0,.int .u32 0,.int .u32 0,.slice none 0 0,.slice none 0 0]) b0 0 (.int .u8 r1) rfl;have e1:=jk e0 (p:=⟨gp,0,none⟩) hneg (.int .u8 r1);have l1_:=Below.setCell (p:=⟨gp,0,none⟩) l0_ GP.out (.int .u8 r1);have u1:=Kd.oo u0 b0 (by decide) 0 (.int .u8 r1);have t1:=Kd.oo t0 b0 (by decide) 0 (.int .u8 r1);clear b0 e0 l0_ u0 t0;have b2:=bK (cs':= #[.int .u8 r1,.int .u8 r2,.int .u8 0,.int .u16 0,.int .u8 0,.int .u16 0,.int .u32 0,.int .u32 0,.slice none 0 0,.slice none 0 0]) b1 1 (.int .u8 r2) rfl
 have e2:=jk e1 (p:=⟨gp,1,none⟩) hneg (.int .u8 r2);have l2_:=Below.setCell (p:=⟨gp,1,none⟩) l1_ GP.out (.int .u8 r2);have u2:=Kd.oo u1 b1 (by decide) 1 (.int .u8 r2);have t2:=Kd.oo t1 b1 (by decide) 1 (.int .u8 r2);clear b1 e1 l1_ u1 t1;have b3:=bK (cs':= #[.int .u8 r1,.int .u8 r2,.int .u8 r3,.int .u16 0,.int .u8 0,.int .u16 0,.int .u32 0,.int .u32 0,.slice none 0 0,.slice none 0 0]) b2 2 (.int .u8 r3) rfl;have e3:=jk e2 (p:=⟨gp,2,none⟩) hneg (.int .u8 r3);have l3_:=Below.setCell (p:=⟨gp,2,none⟩) l2_ GP.out (.int .u8 r3);have u3:=Kd.oo u2 b2 (by decide) 2 (.int .u8 r3);have t3:=Kd.oo t2 b2 (by decide) 2 (.int .u8 r3);clear b2 e2 l2_ u2 t2
 have b4:=bK (cs':= #[.int .u8 r1,.int .u8 r2,.int .u8 r3,.int .u16 r4,.int .u8 0,.int .u16 0,.int .u32 0,.int .u32 0,.slice none 0 0,.slice none 0 0]) b3 3 (.int .u16 r4) rfl;have e4:=jk e3 (p:=⟨gp,3,none⟩) hneg (.int .u16 r4);have l4_:=Below.setCell (p:=⟨gp,3,none⟩) l3_ GP.out (.int .u16 r4);have u4:=Kd.oo u3 b3 (by decide) 3 (.int .u16 r4);have t4:=Kd.oo t3 b3 (by decide) 3 (.int .u16 r4);clear b3 e3 l3_ u3 t3;have b5:=bK (cs':= #[.int .u8 r1,.int .u8 r2,.int .u8 r3,.int .u16 r4,.int .u8 r5,.int .u16 0,.int .u32 0,.int .u32 0,.slice none 0 0,.slice none 0 0]) b4 4 (.int .u8 r5) rfl;have e5:=jk e4 (p:=⟨gp,4,none⟩) hneg (.int .u8 r5);have l5_:=Below.setCell (p:=⟨gp,4,none⟩) l4_ GP.out (.int .u8 r5);have u5:=Kd.oo u4 b4 (by decide) 4 (.int .u8 r5)
 have t5:=Kd.oo t4 b4 (by decide) 4 (.int .u8 r5);clear b4 e4 l4_ u4 t4;have b6:=bK (cs':= #[.int .u8 r1,.int .u8 r2,.int .u8 r3,.int .u16 r4,.int .u8 r5,.int .u16 r6,.int .u32 0,.int .u32 0,.slice none 0 0,.slice none 0 0]) b5 5 (.int .u16 r6) rfl;have e6:=jk e5 (p:=⟨gp,5,none⟩) hneg (.int .u16 r6);have l6_:=Below.setCell (p:=⟨gp,5,none⟩) l5_ GP.out (.int .u16 r6);have u6:=Kd.oo u5 b5 (by decide) 5 (.int .u16 r6);have t6:=Kd.oo t5 b5 (by decide) 5 (.int .u16 r6);clear b5 e5 l5_ u5 t5;have b7:=bK (cs':= #[.int .u8 r1,.int .u8 r2,.int .u8 r3,.int .u16 r4,.int .u8 r5,.int .u16 r6,.int .u32 r7,.int .u32 0,.slice none 0 0,.slice none 0 0]) b6 6 (.int .u32 r7) rfl;have e7:=jk e6 (p:=⟨gp,6,none⟩) hneg (.int .u32 r7);have l7_:=Below.setCell (p:=⟨gp,6,none⟩) l6_ GP.out (.int .u32 r7)
 have u7:=Kd.oo u6 b6 (by decide) 6 (.int .u32 r7);have t7:=Kd.oo t6 b6 (by decide) 6 (.int .u32 r7);clear b6 e6 l6_ u6 t6;have b8:=bK (cs':= #[.int .u8 r1,.int .u8 r2,.int .u8 r3,.int .u16 r4,.int .u8 r5,.int .u16 r6,.int .u32 r7,.int .u32 r8,.slice none 0 0,.slice none 0 0]) b7 7 (.int .u32 r8) rfl;have e8:=jk e7 (p:=⟨gp,7,none⟩) hneg (.int .u32 r8);have l8_:=Below.setCell (p:=⟨gp,7,none⟩) l7_ GP.out (.int .u32 r8);have u8:=Kd.oo u7 b7 (by decide) 7 (.int .u32 r8);have t8:=Kd.oo t7 b7 (by decide) 7 (.int .u32 r8);clear b7 e7 l7_ u7 t7;have b9:=bK (cs':= #[.int .u8 r1,.int .u8 r2,.int .u8 r3,.int .u16 r4,.int .u8 r5,.int .u16 r6,.int .u32 r7,.int .u32 r8,.slice B8 r9.length d8,.slice none 0 0]) b8 8 (.slice B8 r9.length d8) rfl;have e9:=jk e8 (p:=⟨gp,8,none⟩) hneg (.slice B8 r9.length d8)
 have l9_:=Below.setCell (p:=⟨gp,8,none⟩) l8_ GP.out (.slice B8 r9.length d8);have u9:=Kd.oo u8 b8 (by decide) 8 (.slice B8 r9.length d8);have t9:=Kd.oo t8 b8 (by decide) 8 (.slice B8 r9.length d8);clear b8 e8 l8_ u8 t8;have b10:=bK (cs':= #[.int .u8 r1,.int .u8 r2,.int .u8 r3,.int .u16 r4,.int .u8 r5,.int .u16 r6,.int .u32 r7,.int .u32 r8,.slice B8 r9.length d8,.slice B9 uL.length d9]) b9 9 (.slice B9 uL.length d9) rfl;have e10:=jk e9 (p:=⟨gp,9,none⟩) hneg (.slice B9 uL.length d9);have Aox:=Below.setCell (p:=⟨gp,9,none⟩) l9_ GP.out (.slice B9 uL.length d9);have u10:=Kd.oo u9 b9 (by decide) 9 (.slice B9 uL.length d9);have t10:=Kd.oo t9 b9 (by decide) 9 (.slice B9 uL.length d9);clear b9 e9 l9_ u9 t9;have b11:=jk b10 (p:=⟨ge,0,none⟩) Af5 (.int .i64 0)
 have e11:=bK (cs':= #[.int .i64 0]) e10 0 (.int .i64 0) rfl;have Aoy:=Below.setCell (p:=⟨ge,0,none⟩) Aox GE.out (.int .i64 0);have u11:=Kd.oo u10 e10 (by decide) 0 (.int .i64 0);have t11:=Kd.oo t10 e10 (by decide) 0 (.int .i64 0);clear Cx HE3 HB3 O8 O9 hse Aow
 show Leaves _ _ _ _ _ _ _
 refine leaves_cons (f:=94) (args:= #[.pointer (some ⟨gp,0,none⟩),.pointer (some ⟨ge,0,none⟩)]) (by simp) (by simp [go_sem]) ?_;refine (da.LD ⟨gp,0,none⟩ ⟨ge,0,none⟩ _).mono ?_;rintro e u' w'' ⟨rfl,rfl,rfl⟩;exact ⟨_,da.told rfl rfl b11 rfl e11,_,_,rfl,Kd.bP u11 HS,Kd.bP t11 HS,Aoy⟩
def da.f (k:Nat) (l0:List Int):Option (Int×Int×Int×Int×Int×Int×Int×Int×List Int×List Int×Int):=
 if (l0.length:Int)<20 then some (0,0,0,0,0,0,0,0,[],[],20) else (dD.f l0 2).bind fun t=>
 if (rd l0 0) / 16=4 /\ (wrap64 (4*(wrap64 (Go.bits .and .u8 (rd l0 0) 15))))>=20 /\ (wrap64 (t))>=(wrap64 (4*(wrap64 (Go.bits .and .u8 (rd l0 0) 15)))) then
  if (l0.length:Int)<(wrap64 (t)) then some (0,0,0,0,0,0,0,0,[],[],20) else
  (gE.f k 0 (l0.take ((wrap64 (4*(wrap64 (Go.bits .and .u8 (rd l0 0) 15)))):Int).toNat)).bind fun a=>(dU.f k a).bind fun b=>
  if b=65535 then (aX.f k l0).bind fun p=>some (p.1,p.2.1,p.2.2.1,p.2.2.2.1,p.2.2.2.2.1,p.2.2.2.2.2.1,p.2.2.2.2.2.2.1,p.2.2.2.2.2.2.2.1,p.2.2.2.2.2.2.2.2.1,p.2.2.2.2.2.2.2.2.2,0)
  else some (0,0,0,0,0,0,0,0,[],[],22)
 else some (0,0,0,0,0,0,0,0,[],[],21)
theorem da.calls (k:Nat) (A0:Option Addr) (c0:Nat) (l0:List Int) (r1:Int) (r2:Int) (r3:Int) (r4:Int) (r5:Int) (r6:Int) (r7:Int) (r8:Int) (r9:List Int) (uL:List Int) (Ct:Int) (w:World) (hr0:Kd.C (Kd.int .u8) w A0 l0.length l0) (hc0:l0.length<=c0) (h:da.f k l0=some (r1,r2,r3,r4,r5,r6,r7,r8,r9,uL,Ct)):
  Calls Try.prog 57 #[.slice A0 l0.length c0] w fun e w'=>∃ Cv Cw:Value,e= .returned (.tuple #[.agg #[.int .u8 r1,.int .u8 r2,.int .u8 r3,.int .u16 r4,.int .u8 r5,.int .u16 r6,.int .u32 r7,.int .u32 r8,Cv,Cw],.int .i64 Ct]) /\ Kd.R (Kd.int .u8) 5 w' w.heap.size (fun k_=>some k_≠(Cw:Value).ownBlock) Cv r9 /\ Kd.R (Kd.int .u8) 5 w' w.heap.size (fun k_=>some k_≠(Cv:Value).ownBlock) Cw uL /\ Below w.heap.size w w':=by
 have fail:∀ x:Int,(∀ W,Below w.heap.size w W ->Calls Try.prog 95 #[.slice A0 l0.length c0] W fun e w'=>e= .panicked [{v:= .iface 163 (.agg #[.int .i64 x]),recovered:=false}] /\ Below W.heap.size W w') ->some (0,0,0,0,0,0,0,0,([]:List Int),([]:List Int),x)=some (r1,r2,r3,r4,r5,r6,r7,r8,r9,uL,Ct) ->
   Calls Try.prog 57 #[.slice A0 l0.length c0] w fun e w'=>∃ Cv Cw:Value,e= .returned (.tuple #[.agg #[.int .u8 r1,.int .u8 r2,.int .u8 r3,.int .u16 r4,.int .u8 r5,.int .u16 r6,.int .u32 r7,.int .u32 r8,Cv,Cw],.int .i64 Ct]) /\ Kd.R (Kd.int .u8) 5 w' w.heap.size (fun k_=>some k_≠(Cw:Value).ownBlock) Cv r9 /\ Kd.R (Kd.int .u8) 5 w' w.heap.size (fun k_=>some k_≠(Cv:Value).ownBlock) Cw uL /\ Below w.heap.size w w':=by
  intro x hp hx;simp only [Option.some.injEq,Prod.mk.injEq] at hx
  obtain ⟨rfl,rfl,rfl,rfl,rfl,rfl,rfl,rfl,rfl,rfl,rfl⟩:=hx;refine (da.fail x A0 c0 l0.length w hp).mono ?_;rintro e w' ⟨rfl,hb⟩;exact ⟨_,_,rfl,Kd.bX _ _ _ _ _,Kd.bX _ _ _ _ _,hb⟩
 unfold da.f at h
 by_cases c1:(l0.length:Int)<20
 ·rw [aq c1] at h
  exact fail 20 (fun W hW=>aX.Aos A0 c0 l0 W (Kd.aW hr0 hW) hc0 c1) h
 rw [av c1] at h
 obtain ⟨t,h2,h⟩:=dc h;have c1':(l0.length:Int)>=20:=by omega
 by_cases c2:(rd l0 0) / 16=4 /\ (wrap64 (4*(wrap64 (Go.bits .and .u8 (rd l0 0) 15))))>=20 /\ (wrap64 (t))>=(wrap64 (4*(wrap64 (Go.bits .and .u8 (rd l0 0) 15))))
 ·rw [aq c2] at h
  by_cases c3:(l0.length:Int)<(wrap64 (t))
  ·rw [aq c3] at h
   exact fail 20 (fun W hW=>aX.Aou t A0 c0 l0 W (Kd.aW hr0 hW) hc0 c1' h2 c2 c3) h
  rw [av c3] at h
  obtain ⟨a,ha,h⟩:=dc h;obtain ⟨b,hb,h⟩:=dc h
  by_cases c4:b=65535
  ·rw [aq c4] at h
   obtain ⟨p,hp,h⟩:=dc h;obtain ⟨p1,p2,p3,p4,p5,p6,p7,p8,p9,p10⟩:=p;simp only [Option.some.injEq,Prod.mk.injEq] at h
   obtain ⟨rfl,rfl,rfl,rfl,rfl,rfl,rfl,rfl,rfl,rfl,rfl⟩:=h;exact da.done k A0 c0 l0 _ _ _ _ _ _ _ _ _ _ w hr0 hc0 hp
  rw [av c4] at h
  exact fail 22 (fun W hW=>aX.Aov k t a b A0 c0 l0 W (Kd.aW hr0 hW) hc0 c1' h2 c2 (by omega) ha hb c4) h
 rw [av c2] at h
 exact fail 21 (fun W hW=>aX.Aot t A0 c0 l0 W (Kd.aW hr0 hW) hc0 c1' h2 c2) h
attribute [local go_sem] dI dJ eI eJ cO cP dK dL
def nV.f (aU:Int) (bh:Int) (bn:Int) (fR:List Int):Option (List Int×Int):=if (wrap64 (8+(fR.length:Int)))>65535 then (some (([]:List Int),23)) else ((some (([(aU / 256) % 256,(aU) % 256,(bh / 256) % 256,(bh) % 256,((wrap64 (8+(fR.length:Int))) / 256) % 256,(wrap64 (8+(fR.length:Int))) % 256,(bn / 256) % 256,(bn) % 256]:List Int):List Int)).bind fun Dv=>(if Dv.length+fR.length<140737488355328 then (some ((Dv++fR),0)) else (none)))
theorem nV.calls (aU:Int) (bh:Int) (bn:Int) (qa:Option Addr) (qb:Nat) (fR:List Int) (r1:List Int) (r2:Int) (w:World) (xb:Kd.C (Kd.int .u8) w qa fR.length fR) (xd:fR.length<=qb) (h:nV.f aU bh bn fR=some (r1,r2)):
  Calls Try.prog 108 #[.agg #[.int .u16 aU,.int .u16 bh,.int .u16 bn,.slice qa fR.length qb]] w fun e w'=>∃ oW:Value,e= .returned (.tuple #[oW,.int .i64 r2]) /\ Kd.R (Kd.int .u8) 5 w' w.heap.size (fun _=>True) oW r1 /\ Below w.heap.size w w':=by
 have zO:=Try.underlying83;have FD:=aa.mk xb;have Nn:=aa.mk xd;clear xb xd;have HB:=gI w;have H:(if (wrap64 (8+(fR.length:Int)))>65535 then (some (([]:List Int),23)) else ((some (([(aU / 256) % 256,(aU) % 256,(bh / 256) % 256,(bh) % 256,((wrap64 (8+(fR.length:Int))) / 256) % 256,(wrap64 (8+(fR.length:Int))) % 256,(bn / 256) % 256,(bn) % 256]:List Int):List Int)).bind fun Dv=>(if Dv.length+fR.length<140737488355328 then (some ((Dv++fR),0)) else (none))))=some (r1,r2):=h;clear h
 by_cases c2:(wrap64 (8+(fR.length:Int)))>65535
 ·rw [aq c2] at H
  have j4:decide (65535<(wrap64 (8+(fR.length:Int))))=true:=bN c2;clear c2;simp only [Option.some.injEq,Prod.mk.injEq] at H
  obtain ⟨rfl,rfl⟩:=H
  go_enter Try.func108,Try.ntmps108
  go_wp2_with (first|((with_reducible refine aA (N:=1) rfl ?_);refine aC ?hg (N:=1) ?hd (cs:= #[.int .u16 aU,.int .u16 bh,.int .u16 bn,.slice qa fR.length qb]) (t:=83) ?hr ?_;(case hd=>rfl);(case hg=>rfl);(case hr=>first|(go_simp;done)|(go_simp;rfl));intro qK hg w3 bJ hb;have aH:=aa.mk (au (bz HB) hb);have aK:=aa.mk (bJ);have bt:=aa.mk ((by rw [hg];exact (af (bz HB)):w.heap.size<=qK));have cC:=aa.mk ((by rw [hg];exact (af (bz HB)):w.heap.size<=qK));clear HB;have HB:=aH;have kn:=aK;have Af7:=bt;have Af8:=cC;clear aH aK bt cC;clear hb bJ hg;have pK:w3.cell? ⟨qK,0,none⟩=some (.int .u16 aU):=cz kn.out 0 rfl;have pL:w3.cell? ⟨qK,1,none⟩=some (.int .u16 bh):=cz kn.out 1 rfl;have pM:w3.cell? ⟨qK,2,none⟩=some (.int .u16 bn):=cz kn.out 2 rfl;have pN:w3.cell? ⟨qK,3,none⟩=some (.slice qa fR.length qb):=cz kn.out 3 rfl;have pO:=ae kn.out 0;have pP:=ae kn.out 1;have pQ:=ae kn.out 2;have pR:=ae kn.out 3))
  go_ret2
  exact ⟨_,by first|rfl|(simp [aj,ak]<;>rfl)|(simp [*,aj,ak]<;>rfl),by first|exact Kd.bX _ _ _ _ _|exact Kd.jn _ _ _ _ _|exact Kd.jo _ _ _ _ _|exact Kd.jl _ _ _ _ _|exact Kd.jm _ _ _ _ _,bz HB⟩
 rw [av c2] at H
 have j4:decide (65535<(wrap64 (8+(fR.length:Int))))=false:=gN c2;clear c2;obtain ⟨Dv,Jo⟩:∃ y_:List Int,y_=(([(aU / 256) % 256,(aU) % 256,(bh / 256) % 256,(bh) % 256,((wrap64 (8+(fR.length:Int))) / 256) % 256,(wrap64 (8+(fR.length:Int))) % 256,(bn / 256) % 256,(bn) % 256]:List Int)):=⟨_,rfl⟩
 replace H:(if Dv.length+fR.length<140737488355328 then (some ((Dv++fR),0)) else (none))=some (r1,r2):=by first|(rw [Jo];with_reducible exact H)|(have kE:=(bD _ _).symm.trans H;rw [Jo];with_reducible exact kE)|(have kE:=(bD _ _).symm.trans H;with_reducible exact kE)|with_reducible exact H|(rw [Jo];exact H)|exact H
 have Yk:=aa.mk Jo;clear Jo
 by_cases c5:Dv.length+fR.length<140737488355328
 ·rw [aq c5] at H
  have AbJ:=aa.mk c5;clear c5;obtain ⟨AoA,Jp⟩:∃ y_:List Int,y_=(Dv++fR):=⟨_,rfl⟩
  replace H:(some (AoA,0))=some (r1,r2):=by first|(rw [Jp];with_reducible exact H)|(have kE:=(bD _ _).symm.trans H;rw [Jp];with_reducible exact kE)|(have kE:=(bD _ _).symm.trans H;with_reducible exact kE)|with_reducible exact H|(rw [Jp];exact H)|exact H
  have Af9:=aa.mk Jp;clear Jp;simp only [Option.some.injEq,Prod.mk.injEq] at H
  obtain ⟨rfl,rfl⟩:=H
  go_enter Try.func108,Try.ntmps108
  go_wp2_with (first|((with_reducible refine aA (N:=1) rfl ?_);refine aC ?hg (N:=1) ?hd (cs:= #[.int .u16 aU,.int .u16 bh,.int .u16 bn,.slice qa fR.length qb]) (t:=83) ?hr ?_;(case hd=>rfl);(case hg=>rfl);(case hr=>first|(go_simp;done)|(go_simp;rfl));intro qK hg w6 bJ hb;have aH:=aa.mk (au (bz HB) hb);have aK:=aa.mk (bJ);have bt:=aa.mk ((by rw [hg];exact (af (bz HB)):w.heap.size<=qK));have cC:=aa.mk ((by rw [hg];exact (af (bz HB)):w.heap.size<=qK));clear HB;have HB:=aH;have kn:=aK;have Af7:=bt;have Af8:=cC;clear aH aK bt cC;clear hb bJ hg;have uZ:w6.cell? ⟨qK,0,none⟩=some (.int .u16 aU):=cz kn.out 0 rfl;have vk:w6.cell? ⟨qK,1,none⟩=some (.int .u16 bh):=cz kn.out 1 rfl;have vn:w6.cell? ⟨qK,2,none⟩=some (.int .u16 bn):=cz kn.out 2 rfl;have vp:w6.cell? ⟨qK,3,none⟩=some (.slice qa fR.length qb):=cz kn.out 3 rfl;have vq:=ae kn.out 0;have vu:=ae kn.out 1;have vv:=ae kn.out 2;have vw:=ae kn.out 3)|((with_reducible refine aA (N:=37) rfl ?_);refine Kd.qh (Kd.int .u8) _ 5 ?hg (N:=37) ?hd (xs:=([(aU / 256) % 256,(aU) % 256,(bh / 256) % 256,(bh) % 256,((wrap64 (8+(fR.length:Int))) / 256) % 256,(wrap64 (8+(fR.length:Int))) % 256,(bn / 256) % 256,(bn) % 256]:List Int)) (inner:=[.int .u8 ((aU / 256) % 256),.int .u8 ((aU) % 256),.int .u8 ((bh / 256) % 256),.int .u8 ((bh) % 256),.int .u8 (((wrap64 (8+(fR.length:Int))) / 256) % 256),.int .u8 ((wrap64 (8+(fR.length:Int))) % 256),.int .u8 ((bn / 256) % 256),.int .u8 ((bn) % 256)]) (ok:=fun _=>True) (qW:=fun _=>True) ?hr ?hp (fun _ hk=>hk) trivial (Below.refl _ _) (Nat.le_refl _) (by simp) ?_;(case hd=>rfl);(case hg=>rfl);(case hr=>first|(go_simp;done)|(go_simp;simp only [IntKind.wrap_u8,IntKind.wrap_u16,IntKind.wrap_u32];done)|(go_simp;rfl));(case hp=>exact (cD.one (show Kd.M (Kd.int .u8) _ _ _ ((aU / 256) % 256) [.int .u8 ((aU / 256) % 256)] from rfl) (cD.one (show Kd.M (Kd.int .u8) _ _ _ ((aU) % 256) [.int .u8 ((aU) % 256)] from rfl) (cD.one (show Kd.M (Kd.int .u8) _ _ _ ((bh / 256) % 256) [.int .u8 ((bh / 256) % 256)] from rfl) (cD.one (show Kd.M (Kd.int .u8) _ _ _ ((bh) % 256) [.int .u8 ((bh) % 256)] from rfl) (cD.one (show Kd.M (Kd.int .u8) _ _ _ (((wrap64 (8+(fR.length:Int))) / 256) % 256) [.int .u8 (((wrap64 (8+(fR.length:Int))) / 256) % 256)] from rfl) (cD.one (show Kd.M (Kd.int .u8) _ _ _ ((wrap64 (8+(fR.length:Int))) % 256) [.int .u8 ((wrap64 (8+(fR.length:Int))) % 256)] from rfl) (cD.one (show Kd.M (Kd.int .u8) _ _ _ ((bn / 256) % 256) [.int .u8 ((bn / 256) % 256)] from rfl) (cD.one (show Kd.M (Kd.int .u8) _ _ _ ((bn) % 256) [.int .u8 ((bn) % 256)] from rfl) (cD.none _ _))))))))));intro AoB w8 ym hb fT iN;clear fT iN;(first|rw [<- Yk.out] at ym|(simp only [Int.reduceToNat] at ym;rw [<- Yk.out] at ym));have aH:=aa.mk (Kd.bP ym (af (bz HB)));have aK:=aa.mk (bq (kz kn) hb);have bt:=aa.mk (au (bz HB) hb);clear kn;clear HB;have RZ:=aH;have kn:=aK;have HB:=bt;clear aH aK bt;clear hb ym;have tB:w8.cell? ⟨qK,0,none⟩=some (.int .u16 aU):=cz kn.out 0 rfl;have tC:w8.cell? ⟨qK,1,none⟩=some (.int .u16 bh):=cz kn.out 1 rfl;have tD:w8.cell? ⟨qK,2,none⟩=some (.int .u16 bn):=cz kn.out 2 rfl;have tE:w8.cell? ⟨qK,3,none⟩=some (.slice qa fR.length qb):=cz kn.out 3 rfl;have tF:=ae kn.out 0;have tG:=ae kn.out 1;have tH:=ae kn.out 2;have tI:=ae kn.out 3)|((with_reducible refine fB (b:= .append) (xs:= #[.tmp 37,.tmp 39]) rfl ?_);at_builtin;refine Kd.gz (Kd.int .u8) (w0:=w) w.heap.size rfl (.tmp 37) (.tmp 39) 23 5 (.int .u8 0) 1 rfl Try.underlying23 fY rfl (by decide) (by omega) AoB Dv fR _ _ _ (fun _=>True) (fun _=>False) rfl rfl ?aO ?aR (fun _ _ h=>h) (fun _ h=>h.elim) ?aF ?aB ?aS ?aL ?_;(case aR=>exact Kd.aW FD.out (bz HB));(case aB=>exact bz HB);(case aF=>exact (fun _ _=>trivial));(case aO=>exact (Kd.rz RZ));(case aS=>exact (af (bz HB)));(case aL=>have:=AbJ.out;omega);intro AvK sn ho hb hg hat;rw [<- Af9.out] at ho;have aH:=aa.mk (gW (kz kn) hg (Kd.nk RZ.out kn.out (by decide)));have aK:=aa.mk (hb);have bt:=aa.mk (ho);clear kn;clear HB;clear RZ;have kn:=aH;have HB:=aK;have Aga:=bt;clear aH aK bt;clear ho hb hg hat))
  go_ret2
  exact ⟨_,by first|rfl|(simp [aj,ak]<;>rfl)|(simp [*,aj,ak]<;>rfl),by (with_reducible repeat (first|apply Kd.fg|apply Kd.eV|apply Kd.fj));exact Aga.out,bz HB⟩
 rw [av c5] at H
 cases H
attribute [local go_sem] dI dJ eI eJ cO cP dK dL
def j5.f (k:Nat) (a0:Int) (a1:Int) (a2:Int) (a3:Int):Option (Int):=(dU.f k (((a0 / 65536)+(Go.bits .and .u32 a0 65535)+(a1 / 65536)+(Go.bits .and .u32 a1 65535)+(a2)+(IntKind.u16.wrap (a3))) % 4294967296)).bind fun O7=>(some ((O7) % 4294967296))
theorem j5.calls (k:Nat) (a0:Int) (a1:Int) (a2:Int) (a3:Int) (r:Int) (w:World) (h:j5.f k a0 a1 a2 a3=some r):
  Calls Try.prog 121 #[.int .u32 a0,.int .u32 a1,.int .u8 a2,.int .i64 a3] w fun e w'=>e= .returned (.int .u32 r) /\ bB w w':=by
 have H:((dU.f k (((a0 / 65536)+(Go.bits .and .u32 a0 65535)+(a1 / 65536)+(Go.bits .and .u32 a1 65535)+(a2)+(IntKind.u16.wrap (a3))) % 4294967296)).bind fun O7=>(some ((O7) % 4294967296)))=some r:=h;clear h;replace H:=dc H;obtain ⟨O7,Dw,H⟩:=H;replace H:(some ((O7) % 4294967296))=some r:=H;have A5:=aa.mk Dw;clear Dw;obtain rfl:=cN H
 go_enter Try.func121,Try.ntmps121
 go_wp2_with (first|((with_reducible refine az (f:=115) rfl ?_);refine gL 27 Try.func115 #[.int .u32 (((a0 / 65536)+(Go.bits .and .u32 a0 65535)+(a1 / 65536)+(Go.bits .and .u32 a1 65535)+(a2)+(IntKind.u16.wrap (a3))) % 4294967296)] ?_;(with_reducible refine (dU.calls k (((a0 / 65536)+(Go.bits .and .u32 a0 65535)+(a1 / 65536)+(Go.bits .and .u32 a1 65535)+(a2)+(IntKind.u16.wrap (a3))) % 4294967296) O7 _ A5.out).mono ?_);rintro e w' ⟨rfl,⟨nd,rfl⟩⟩;refine ⟨_,rfl, ?_⟩))
 go_ret
 exact ⟨by first|rfl|(simp;done)|(simp [*];done),by repeat (first|exact bB.refl _|apply bB.step)⟩
def nW.f (k:Nat) (a0:Int) (a1:Int) (ew:Int) (ez:Int) (ee:Int) (gS:List Int):Option (Int×Bool):=(nV.f ew ez ee gS).bind fun Dx=>((j5.f k a0 a1 17 (Dx.1.length:Int)).bind fun E6=>((gE.f k E6 Dx.1).bind fun Cc=>((dU.f k Cc).bind fun Cd=>(some (Cd,(Dx.2==0))))))
theorem nW.calls (k:Nat) (a0:Int) (a1:Int) (ew:Int) (ez:Int) (ee:Int) (kU:Option Addr) (kV:Nat) (gS:List Int) (r1:Int) (r2:Bool) (w:World) (xg:Kd.C (Kd.int .u8) w kU gS.length gS) (xh:gS.length<=kV) (h:nW.f k a0 a1 ew ez ee gS=some (r1,r2)):
  Calls Try.prog 98 #[.int .u32 a0,.int .u32 a1,.agg #[.int .u16 ew,.int .u16 ez,.int .u16 ee,.slice kU gS.length kV]] w fun e w'=>e= .returned (.tuple #[.int .u16 r1,.bool r2]) /\ Below w.heap.size w w':=by
 have zO:=Try.underlying83;have xj:=aa.mk xg;have xk:=aa.mk xh;clear xg xh;have HB:=gI w;have H:((nV.f ew ez ee gS).bind fun Dx=>((j5.f k a0 a1 17 (Dx.1.length:Int)).bind fun E6=>((gE.f k E6 Dx.1).bind fun Cc=>((dU.f k Cc).bind fun Cd=>(some (Cd,(Dx.2==0)))))))=some (r1,r2):=h;clear h;replace H:=dc H;obtain ⟨⟨Jq,R1⟩,qo,H⟩:=H;replace H:((j5.f k a0 a1 17 (Jq.length:Int)).bind fun E6=>((gE.f k E6 Jq).bind fun Cc=>((dU.f k Cc).bind fun Cd=>(some (Cd,(R1==0))))))=some (r1,r2):=H;have A4:=aa.mk qo;clear qo;replace H:=dc H;obtain ⟨E6,Dw,H⟩:=H
 replace H:((gE.f k E6 Jq).bind fun Cc=>((dU.f k Cc).bind fun Cd=>(some (Cd,(R1==0)))))=some (r1,r2):=H;have A5:=aa.mk Dw;clear Dw;replace H:=dc H;obtain ⟨Cc,wD,H⟩:=H;replace H:((dU.f k Cc).bind fun Cd=>(some (Cd,(R1==0))))=some (r1,r2):=H;have A6:=aa.mk wD;clear wD;replace H:=dc H;obtain ⟨Cd,BB,H⟩:=H;replace H:(some (Cd,(R1==0)))=some (r1,r2):=H;have A7:=aa.mk BB;clear BB;simp only [Option.some.injEq,Prod.mk.injEq] at H
 obtain ⟨rfl,rfl⟩:=H
 go_enter Try.func98,Try.ntmps98
 go_wp2_with (first|((with_reducible refine aA (N:=5) rfl ?_);refine aC ?hg (N:=5) ?hd (cs:= #[.int .u16 ew,.int .u16 ez,.int .u16 ee,.slice kU gS.length kV]) (t:=83) ?hr ?_;(case hd=>rfl);(case hg=>rfl);(case hr=>first|(go_simp;done)|(go_simp;rfl));intro FE hg w8 bJ hb;have aH:=aa.mk (au (bz HB) hb);have aK:=aa.mk (bJ);have bt:=aa.mk ((by rw [hg];exact (af (bz HB)):w.heap.size<=FE));have cC:=aa.mk ((by rw [hg];exact (af (bz HB)):w.heap.size<=FE));clear HB;have HB:=aH;have tK:=aK;have Asu:=bt;have Asv:=cC;clear aH aK bt cC;clear hb bJ hg;have Dy:w8.cell? ⟨FE,0,none⟩=some (.int .u16 ew):=cz tK.out 0 rfl;have Dz:w8.cell? ⟨FE,1,none⟩=some (.int .u16 ez):=cz tK.out 1 rfl;have DA:w8.cell? ⟨FE,2,none⟩=some (.int .u16 ee):=cz tK.out 2 rfl;have DB:w8.cell? ⟨FE,3,none⟩=some (.slice kU gS.length kV):=cz tK.out 3 rfl;have DC:=ae tK.out 0;have DD:=ae tK.out 1;have DE:=ae tK.out 2;have DF:=ae tK.out 3)|((with_reducible refine az (f:=108) rfl ?_);refine gL 12 Try.func108 #[.agg #[.int .u16 ew,.int .u16 ez,.int .u16 ee,.slice kU gS.length kV]] ?_;(with_reducible refine (nV.calls ew ez ee _ _ gS Jq R1 _ ?aE ?aG A4.out).mono ?_);(case aE=>exact Kd.aW xj.out (bz HB));(case aG=>exact xk.out);rintro e ku ⟨AvL,rfl,gC,hb⟩;refine ⟨_,rfl, ?_⟩;have aH:=aa.mk (Kd.bP gC (af (bz HB)));have aK:=aa.mk (bq (kz tK) hb);have bt:=aa.mk (au (bz HB) hb);clear tK;clear HB;have FF:=aH;have tK:=aK;have HB:=bt;clear aH aK bt;(try clear hb);(try clear hb2);(try clear hk);(try clear hi);(try clear gC);obtain ⟨AbK,AbL,AbM⟩:=Kd.dn FF.out;subst AbM)|((with_reducible refine az (f:=121) rfl ?_);refine gL 19 Try.func121 #[.int .u32 a0,.int .u32 a1,.int .u8 17,.int .i64 (Jq.length:Int)] ?_;(with_reducible refine (j5.calls k a0 a1 17 (Jq.length:Int) E6 _ A5.out).mono ?_);rintro e w' ⟨rfl,⟨nd,rfl⟩⟩;refine ⟨_,rfl, ?_⟩)|((with_reducible refine az (f:=116) rfl ?_);refine gL 21 Try.func116 #[.int .u32 E6,.slice AbK Jq.length AbL] ?_;(with_reducible refine (gE.calls k E6 _ _ Jq Cc _ ?aE ?aG A6.out).mono ?_);(case aE=>repeat (first|exact (Kd.ay FF.out).2.2|(with_reducible refine Kd.fH ?_ _)|(with_reducible refine Kd.fz ?_ _)|(with_reducible refine Kd.gQ ?_)));(case aG=>exact (Kd.ay FF.out).2.1);rintro e nP ⟨rfl,hb⟩;refine ⟨_,rfl, ?_⟩;have aH:=aa.mk (Kd.fX (Kd.rz FF) hb);have aK:=aa.mk (bq (kz tK) hb);have bt:=aa.mk (au (bz HB) hb);clear FF;clear tK;clear HB;have FF:=aH;have tK:=aK;have HB:=bt;clear aH aK bt;(try clear hb);(try clear hb2);(try clear hk);(try clear hi))|((with_reducible refine az (f:=115) rfl ?_);refine gL 22 Try.func115 #[.int .u32 Cc] ?_;(with_reducible refine (dU.calls k Cc Cd _ A7.out).mono ?_);rintro e w' ⟨rfl,⟨nd,rfl⟩⟩;refine ⟨_,rfl, ?_⟩))
 go_ret2
 exact ⟨by first|rfl|(simp [aj,ak]<;>rfl)|(simp [*,aj,ak]<;>rfl),bz HB⟩
attribute [local go_sem] dI dJ eI eJ cO cP dK dL
def oZ.f (k:Nat) (a0:Int) (a1:Int) (ew:Int) (ez:Int) (ee:Int) (gS:List Int):Option (Bool):=if ee=0 then (some true) else ((nW.f k a0 a1 ew ez ee gS).bind fun Jr=>(if Jr.2=true then (some (Jr.1==65535)) else (some false)))
theorem oZ.calls (k:Nat) (a0:Int) (a1:Int) (ew:Int) (ez:Int) (ee:Int) (kU:Option Addr) (kV:Nat) (gS:List Int) (r:Bool) (w:World) (xg:Kd.C (Kd.int .u8) w kU gS.length gS) (xh:gS.length<=kV) (h:oZ.f k a0 a1 ew ez ee gS=some r):
  Calls Try.prog 59 #[.int .u32 a0,.int .u32 a1,.agg #[.int .u16 ew,.int .u16 ez,.int .u16 ee,.slice kU gS.length kV]] w fun e w'=>e= .returned (.bool r) /\ Below w.heap.size w w':=by
 have zO:=Try.underlying83;have xj:=aa.mk xg;have xk:=aa.mk xh;clear xg xh;have HB:=gI w;have H:(if ee=0 then (some true) else ((nW.f k a0 a1 ew ez ee gS).bind fun Jr=>(if Jr.2=true then (some (Jr.1==65535)) else (some false))))=some r:=h;clear h
 by_cases c4:ee=0
 ·rw [aq c4] at H
  have mw:(ee==0)=true:=fF c4;have yh:(ee !=0)=false:=kL c4;clear c4;obtain rfl:=cN H
  go_enter Try.func59,Try.ntmps59
  go_wp2_with (first|((with_reducible refine aA (N:=5) rfl ?_);refine aC ?hg (N:=5) ?hd (cs:= #[.int .u16 ew,.int .u16 ez,.int .u16 ee,.slice kU gS.length kV]) (t:=83) ?hr ?_;(case hd=>rfl);(case hg=>rfl);(case hr=>first|(go_simp;done)|(go_simp;rfl));intro o4 hg w5 bJ hb;have aH:=aa.mk (au (bz HB) hb);have aK:=aa.mk (bJ);have bt:=aa.mk ((by rw [hg];exact (af (bz HB)):w.heap.size<=o4));have cC:=aa.mk ((by rw [hg];exact (af (bz HB)):w.heap.size<=o4));clear HB;have HB:=aH;have ko:=aK;have Yl:=bt;have Ym:=cC;clear aH aK bt cC;clear hb bJ hg;have Gv:w5.cell? ⟨o4,0,none⟩=some (.int .u16 ew):=cz ko.out 0 rfl;have Gw:w5.cell? ⟨o4,1,none⟩=some (.int .u16 ez):=cz ko.out 1 rfl;have Gx:w5.cell? ⟨o4,2,none⟩=some (.int .u16 ee):=cz ko.out 2 rfl;have Gy:w5.cell? ⟨o4,3,none⟩=some (.slice kU gS.length kV):=cz ko.out 3 rfl;have Gz:=ae ko.out 0;have GA:=ae ko.out 1;have GD:=ae ko.out 2;have GF:=ae ko.out 3))
  go_ret
  exact ⟨by first|rfl|(simp [aj,ak]<;>rfl)|(simp [*,aj,ak]<;>rfl),bz HB⟩
 rw [av c4] at H
 have mw:(ee==0)=false:=fq c4;have yh:(ee !=0)=true:=lf c4;replace H:=dc H;obtain ⟨⟨VN,Agb⟩,BB,H⟩:=H;replace H:(if Agb=true then (some (VN==65535)) else (some false))=some r:=H;have A7:=aa.mk BB;clear BB
 by_cases c8:Agb=true
 ·subst c8
  have H1:(some (VN==65535))=some r:=by rw [aq rfl] at H;exact H
  clear H;have H:=H1;clear H1;obtain rfl:=cN H
  go_enter Try.func59,Try.ntmps59
  go_wp2_with (first|((with_reducible refine aA (N:=5) rfl ?_);refine aC ?hg (N:=5) ?hd (cs:= #[.int .u16 ew,.int .u16 ez,.int .u16 ee,.slice kU gS.length kV]) (t:=83) ?hr ?_;(case hd=>rfl);(case hg=>rfl);(case hr=>first|(go_simp;done)|(go_simp;rfl));intro o4 hg w9 bJ hb;have aH:=aa.mk (au (bz HB) hb);have aK:=aa.mk (bJ);have bt:=aa.mk ((by rw [hg];exact (af (bz HB)):w.heap.size<=o4));have cC:=aa.mk ((by rw [hg];exact (af (bz HB)):w.heap.size<=o4));clear HB;have HB:=aH;have ko:=aK;have Yl:=bt;have Ym:=cC;clear aH aK bt cC;clear hb bJ hg;have tB:w9.cell? ⟨o4,0,none⟩=some (.int .u16 ew):=cz ko.out 0 rfl;have tC:w9.cell? ⟨o4,1,none⟩=some (.int .u16 ez):=cz ko.out 1 rfl;have tD:w9.cell? ⟨o4,2,none⟩=some (.int .u16 ee):=cz ko.out 2 rfl;have tE:w9.cell? ⟨o4,3,none⟩=some (.slice kU gS.length kV):=cz ko.out 3 rfl;have tF:=ae ko.out 0;have tG:=ae ko.out 1;have tH:=ae ko.out 2;have tI:=ae ko.out 3)|((with_reducible refine az (f:=98) rfl ?_);refine gL 16 Try.func98 #[.int .u32 a0,.int .u32 a1,.agg #[.int .u16 ew,.int .u16 ez,.int .u16 ee,.slice kU gS.length kV]] ?_;(with_reducible refine (nW.calls k a0 a1 ew ez ee _ _ gS VN true _ ?aE ?aG A7.out).mono ?_);(case aE=>exact Kd.aW xj.out (bz HB));(case aG=>exact xk.out);rintro e sn ⟨rfl,hb⟩;refine ⟨_,rfl, ?_⟩;have aH:=aa.mk (bq (kz ko) hb);have aK:=aa.mk (au (bz HB) hb);clear ko;clear HB;have ko:=aH;have HB:=aK;clear aH aK;(try clear hb);(try clear hb2);(try clear hk);(try clear hi)))
  go_ret
  exact ⟨by first|rfl|(simp [aj,ak]<;>rfl)|(simp [*,aj,ak]<;>rfl),bz HB⟩
 replace c8:=zE c8
 subst c8;have H1:(some false)=some r:=by rw [av (show ¬ (false=true) by decide)] at H;exact H
 clear H;have H:=H1;clear H1;obtain rfl:=cN H
 go_enter Try.func59,Try.ntmps59
 go_wp2_with (first|((with_reducible refine aA (N:=5) rfl ?_);refine aC ?hg (N:=5) ?hd (cs:= #[.int .u16 ew,.int .u16 ez,.int .u16 ee,.slice kU gS.length kV]) (t:=83) ?hr ?_;(case hd=>rfl);(case hg=>rfl);(case hr=>first|(go_simp;done)|(go_simp;rfl));intro o4 hg nP bJ hb;have aH:=aa.mk (au (bz HB) hb);have aK:=aa.mk (bJ);have bt:=aa.mk ((by rw [hg];exact (af (bz HB)):w.heap.size<=o4));have cC:=aa.mk ((by rw [hg];exact (af (bz HB)):w.heap.size<=o4));clear HB;have HB:=aH;have ko:=aK;have Yl:=bt;have Ym:=cC;clear aH aK bt cC;clear hb bJ hg;have GG:nP.cell? ⟨o4,0,none⟩=some (.int .u16 ew):=cz ko.out 0 rfl;have GH:nP.cell? ⟨o4,1,none⟩=some (.int .u16 ez):=cz ko.out 1 rfl;have GI:nP.cell? ⟨o4,2,none⟩=some (.int .u16 ee):=cz ko.out 2 rfl;have GJ:nP.cell? ⟨o4,3,none⟩=some (.slice kU gS.length kV):=cz ko.out 3 rfl;have GK:=ae ko.out 0;have GL:=ae ko.out 1;have GM:=ae ko.out 2;have GQ:=ae ko.out 3)|((with_reducible refine az (f:=98) rfl ?_);refine gL 16 Try.func98 #[.int .u32 a0,.int .u32 a1,.agg #[.int .u16 ew,.int .u16 ez,.int .u16 ee,.slice kU gS.length kV]] ?_;(with_reducible refine (nW.calls k a0 a1 ew ez ee _ _ gS VN false _ ?aE ?aG A7.out).mono ?_);(case aE=>exact Kd.aW xj.out (bz HB));(case aG=>exact xk.out);rintro e qY ⟨rfl,hb⟩;refine ⟨_,rfl, ?_⟩;have aH:=aa.mk (bq (kz ko) hb);have aK:=aa.mk (au (bz HB) hb);clear ko;clear HB;have ko:=aH;have HB:=aK;clear aH aK;(try clear hb);(try clear hb2);(try clear hk);(try clear hi)))
 go_ret
 exact ⟨by first|rfl|(simp [aj,ak]<;>rfl)|(simp [*,aj,ak]<;>rfl),bz HB⟩
attribute [local go_sem] dI dJ eI eJ cO cP dK dL
def j9.f (k:Nat) (aU:Int) (bh:Int) (bn:Int) (fR:List Int) (yp:Int) (yq:Int) (yt:Int) (yu:Int) (yw:Int) (yx:Int) (rP:Int) (rQ:Int) (rC:List Int) (rD:List Int):Option (Bool):=(oZ.f k rP rQ aU bh bn fR).bind fun Pa=>(some Pa)
theorem j9.calls (k:Nat) (aU:Int) (bh:Int) (bn:Int) (qa:Option Addr) (qb:Nat) (fR:List Int) (yp:Int) (yq:Int) (yt:Int) (yu:Int) (yw:Int) (yx:Int) (rP:Int) (rQ:Int) (AZ:Option Addr) (Ba:Nat) (rC:List Int) (Bb:Option Addr) (Bc:Nat) (rD:List Int) (r:Bool) (w:World) (xb:Kd.C (Kd.int .u8) w qa fR.length fR) (xd:fR.length<=qb) (BC:Kd.C (Kd.int .u8) w AZ rC.length rC) (BD:rC.length<=Ba) (BF:Kd.C (Kd.int .u8) w Bb rD.length rD) (BG:rD.length<=Bc) (h:j9.f k aU bh bn fR yp yq yt yu yw yx rP rQ rC rD=some r):
  Calls Try.prog 156 #[.agg #[.int .u16 aU,.int .u16 bh,.int .u16 bn,.slice qa fR.length qb],.agg #[.int .u8 yp,.int .u8 yq,.int .u8 yt,.int .u16 yu,.int .u8 yw,.int .u16 yx,.int .u32 rP,.int .u32 rQ,.slice AZ rC.length Ba,.slice Bb rD.length Bc]] w fun e w'=>e= .returned (.bool r) /\ Below w.heap.size w w':=by
 have Js:=Try.underlying179;have iW:=Try.underlying73;have zO:=Try.underlying83;have FD:=aa.mk xb;have Nn:=aa.mk xd;clear xb xd;have Yn:=aa.mk BC;have Yo:=aa.mk BD;clear BC BD;have Yp:=aa.mk BF;have Yq:=aa.mk BG;clear BF BG;have HB:=gI w;have H:((oZ.f k rP rQ aU bh bn fR).bind fun Pa=>(some Pa))=some r:=h;clear h;replace H:=dc H;obtain ⟨Pa,wK,H⟩:=H;replace H:(some Pa)=some r:=H;have A3:=aa.mk wK;clear wK;obtain rfl:=cN H
 go_enter Try.func156,Try.ntmps156
 go_wp2_with (first|((with_reducible refine aA (N:=2) rfl ?_);refine aC ?hg (N:=2) ?hd (cs:= #[.int .u16 aU,.int .u16 bh,.int .u16 bn,.slice qa fR.length qb]) (t:=179) ?hr ?_;(case hd=>rfl);(case hg=>rfl);(case hr=>first|(go_simp;done)|(go_simp;rfl));intro yM hg w4 bJ hb;have aH:=aa.mk (au (bz HB) hb);have aK:=aa.mk (bJ);have bt:=aa.mk ((by rw [hg];exact (af (bz HB)):w.heap.size<=yM));have cC:=aa.mk ((by rw [hg];exact (af (bz HB)):w.heap.size<=yM));clear HB;have HB:=aH;have rJ:=aK;have Asw:=bt;have Asx:=cC;clear aH aK bt cC;clear hb bJ hg)|((with_reducible refine aA (N:=3) rfl ?_);refine aC ?hg (N:=3) ?hd (cs:= #[.int .u8 yp,.int .u8 yq,.int .u8 yt,.int .u16 yu,.int .u8 yw,.int .u16 yx,.int .u32 rP,.int .u32 rQ,.slice AZ rC.length Ba,.slice Bb rD.length Bc]) (t:=73) ?hr ?_;(case hd=>rfl);(case hg=>rfl);(case hr=>first|(go_simp;done)|(go_simp;rfl));intro tL hg w5 bJ hb;have aH:=aa.mk (bq (kz rJ) hb);have aK:=aa.mk (au (bz HB) hb);have bt:=aa.mk (bJ);have cC:=aa.mk ((by rw [hg];exact (af (bz HB)):w.heap.size<=tL));have uA:=aa.mk ((by rw [hg];exact (af (bz HB)):w.heap.size<=tL));have yN:=aa.mk ((by rw [hg];exact Nat.ne_of_lt (lZ (g:=yM) (o:= .cells #[.int .u16 aU,.int .u16 bh,.int .u16 bn,.slice qa fR.length qb] 179 (0,0)) (kz rJ)):yM≠tL));have BH:=aa.mk ((by rw [hg];exact Nat.ne_of_gt (lZ (g:=yM) (o:= .cells #[.int .u16 aU,.int .u16 bh,.int .u16 bn,.slice qa fR.length qb] 179 (0,0)) (kz rJ)):tL≠yM));clear rJ;clear HB;have rJ:=aH;have HB:=aK;have nC:=bt;have Asy:=cC;have Asz:=uA;have Pb:=yN;have Pc:=BH;clear aH aK bt cC uA yN BH;clear hb bJ hg;have Agc:=Pc.out;have Agd:=Pb.out;have uZ:w5.cell? ⟨tL,0,none⟩=some (.int .u8 yp):=cz nC.out 0 rfl;have vk:w5.cell? ⟨tL,1,none⟩=some (.int .u8 yq):=cz nC.out 1 rfl;have vn:w5.cell? ⟨tL,2,none⟩=some (.int .u8 yt):=cz nC.out 2 rfl;have vp:w5.cell? ⟨tL,3,none⟩=some (.int .u16 yu):=cz nC.out 3 rfl;have wX:w5.cell? ⟨tL,4,none⟩=some (.int .u8 yw):=cz nC.out 4 rfl;have R5:w5.cell? ⟨tL,5,none⟩=some (.int .u16 yx):=cz nC.out 5 rfl;have Sa:w5.cell? ⟨tL,6,none⟩=some (.int .u32 rP):=cz nC.out 6 rfl;have Sb:w5.cell? ⟨tL,7,none⟩=some (.int .u32 rQ):=cz nC.out 7 rfl;have Sc:w5.cell? ⟨tL,8,none⟩=some (.slice AZ rC.length Ba):=cz nC.out 8 rfl;have Sd:w5.cell? ⟨tL,9,none⟩=some (.slice Bb rD.length Bc):=cz nC.out 9 rfl;have vq:=ae nC.out 0;have vu:=ae nC.out 1;have vv:=ae nC.out 2;have vw:=ae nC.out 3;have wY:=ae nC.out 4;have Se:=ae nC.out 5;have Sf:=ae nC.out 6;have Sg:=ae nC.out 7;have Si:=ae nC.out 8;have Sj:=ae nC.out 9;have LF:w5.cell? ⟨yM,0,none⟩=some (.int .u16 aU):=cz rJ.out 0 rfl;have LG:w5.cell? ⟨yM,1,none⟩=some (.int .u16 bh):=cz rJ.out 1 rfl;have LH:w5.cell? ⟨yM,2,none⟩=some (.int .u16 bn):=cz rJ.out 2 rfl;have LI:w5.cell? ⟨yM,3,none⟩=some (.slice qa fR.length qb):=cz rJ.out 3 rfl;have LJ:=ae rJ.out 0;have LL:=ae rJ.out 1;have LM:=ae rJ.out 2;have LN:=ae rJ.out 3)|((with_reducible refine az (f:=59) rfl ?_);refine gL 11 Try.func59 #[.int .u32 rP,.int .u32 rQ,.agg #[.int .u16 aU,.int .u16 bh,.int .u16 bn,.slice qa fR.length qb]] ?_;(with_reducible refine (oZ.calls k rP rQ aU bh bn _ _ fR Pa _ ?aE ?aG A3.out).mono ?_);(case aE=>exact Kd.aW FD.out (bz HB));(case aG=>exact Nn.out);rintro e w9 ⟨rfl,hb⟩;refine ⟨_,rfl, ?_⟩;have aH:=aa.mk (bq (kz rJ) hb);have aK:=aa.mk (bq (kz nC) hb);have bt:=aa.mk (au (bz HB) hb);clear rJ;clear nC;clear HB;have rJ:=aH;have nC:=aK;have HB:=bt;clear aH aK bt;(try clear hb);(try clear hb2);(try clear hk);(try clear hi)))
 go_ret
 exact ⟨by first|rfl|(simp [aj,ak]<;>rfl)|(simp [*,aj,ak]<;>rfl),bz HB⟩
attribute [local go_sem] dI dJ eI eJ cO cP dK dL
def gM.f (l0:List Int) (a1:Int):Option (List Int):=if 0<=a1 then (if a1<70368744177664 then some [] else none) else none
theorem gM.calls (A0:Option Addr) (c0:Nat) (l0:List Int) (a1:Int) (r:List Int) (w:World) (hr0:Kd.C (Kd.int .u8) w A0 l0.length l0) (hc0:l0.length<=c0) (h:gM.f l0 a1=some r) (hA:A0=none /\ c0=0:=by exact ⟨rfl,rfl⟩):
    Calls Try.prog 132 #[.slice A0 l0.length c0,.int .i64 a1] w fun e w'=>∃ oW:Value,e= .returned (oW) /\ Kd.R (Kd.int .u8) 5 w' w.heap.size (fun _=>True) oW r /\ Below w.heap.size w w':=by
  unfold gM.f at h
  obtain ⟨rfl,rfl⟩:=hA;have hl:l0=[]:=List.length_eq_zero_iff.1 (Nat.le_zero.1 hc0);subst hl
  by_cases c1:0<=a1
  rotate_left
  · rw [av c1] at h
    cases h
  rw [aq c1] at h
  by_cases c2:a1<70368744177664
  rotate_left
  · rw [av c2] at h
    cases h
  rw [aq c2] at h
  obtain rfl:=cN h;clear h hr0 hc0;have n1:decide (a1<0)=false:=gN (by omega);have n2:wrap64 (a1 - wrap64 (0 - 0))=a1:=by unfold wrap64;omega
  have HB:=gI w
  by_cases c3:0<a1
  · have n3:decide (0<a1)=true:=bN c3
    obtain ⟨i0,Iq,_,_,_⟩:=info_parts fY;have hN:=Kd.bX (Kd.int .u8) 5 w w.heap.size (fun _=>True);have Yr:=Li (P:=Try.prog) 23 5 .i64 Try.underlying23 Iq none 0 0 0 (Int.le_refl _) (Int.le_refl _) (Nat.le_refl _);replace Yr:∀ W:World,(Instr.slice 23 (.slice none 0 0) none (some (.int .i64 0)) none).run Try.prog W= .ok (.slice none 0 0) W:=Yr
    go_enter Try.func132,Try.ntmps132
    go_wp2_with (first
     |((with_reducible refine fB (b:= .append) (xs:= #[.tmp 20,.tmp 21]) rfl ?_);at_builtin;refine Kd.Di (Kd.int .u8) (w0:=w) w.heap.size rfl (.tmp 20) (.tmp 21) 23 3 5 (.int .u8 0) 1 rfl Try.underlying23 Try.underlying3 fY rfl (by decide) (by decide) (.slice none 0 0) ([]:List Int) 0 a1 (fun _=>True) rfl rfl rfl (fun _ _=>trivial) ?aO c1 ?aB (af ?aB) ?aL ?_;(case aO=>first|exact hN|exact Kd.fj hN|exact Kd.eV hN _);(case aB=>first|exact Below.refl _ _|exact bf (Below.refl _ _));(case aL=>simp;omega);intro v2 w2 ho hb hg hat;clear hg hat;obtain ⟨A2,c2_,e2,hlc,_⟩:=Kd.cj ho;subst e2;have HB2:=aa.mk hb;have XS:=aa.mk ho;clear ho;have M9:=Li (P:=Try.prog) 23 5 .i64 Try.underlying23 Iq A2 (([]:List Int)++List.replicate a1.toNat 0).length c2_ 0 (Int.le_refl _) (by omega) hlc;clear hlc;clear hb))
    go_ret
    exact ⟨_,rfl,Kd.Aae (m:=0) XS.out (Nat.zero_le _),HB2.out⟩
  have n3:decide (0<a1)=false:=gN c3
  go_enter Try.func132,Try.ntmps132
  go_wp2
  go_ret
  exact ⟨_,rfl,Kd.bX _ _ _ _ _,Below.refl _ _⟩
mutual
def aY.l0:Nat ->List (List Int) ->Int ->List (List Int) ->Int ->Int ->Option (List Int)
  |0,_,_,_,_,_=>none
  |k+1,x0,x3,x9,Cu,Gt=>if Gt<Cu then (if 0<=Gt then (if Gt<(x9.length:Int) then (if (wrap64 (x3+((qH x9 Gt).length:Int)))<0 then (none) else (aY.l0 k x0 (wrap64 (x3+((qH x9 Gt).length:Int))) x9 Cu (wrap64 (Gt+1)))) else (none)) else (none)) else ((gM.f ([]:List Int) x3).bind fun Sk=>(aY.l1 k Sk x0 (x0.length:Int) 0))
def aY.l1:Nat ->List Int ->List (List Int) ->Int ->Int ->Option (List Int)
  |0,_,_,_,_=>none
  |k+1,x6,Qt,VO,GR=>if GR<VO then (if 0<=GR then (if GR<(Qt.length:Int) then (if x6.length+(qH Qt GR).length<140737488355328 then (aY.l1 k (x6++(qH Qt GR)) Qt VO (wrap64 (GR+1))) else (none)) else (none)) else (none)) else (some x6)
end
def aY.f (k:Nat) (l0:List (List Int)):Option (List Int):=aY.l0 k l0 0 l0 (l0.length:Int) 0
theorem aY.calls (k:Nat) (A0:Option Addr) (c0:Nat) (l0:List (List Int)) (r:List Int) (w:World) (hr0:Kd.C (Kd.slice 5 (Kd.int .u8)) w A0 l0.length l0) (hc0:l0.length<=c0) (h:aY.f k l0=some r):
    Calls Try.prog 127 #[.slice A0 l0.length c0] w fun e w'=>∃ oW:Value,e= .returned (oW) /\ Kd.R (Kd.int .u8) 5 w' w.heap.size (fun _=>True) oW r /\ Below w.heap.size w w':=by
  have gj:=aa.mk hr0;have jx:=aa.mk hc0;clear hr0 hc0;have HB:=gI w;have H:(aY.l0 k l0 0 l0 (l0.length:Int) 0)=some r:=h;clear h;have H':=aa.mk H;clear H
  go_enter Try.func127,Try.ntmps127
  go_wp2
  go_loopg [3,11] k (fun kq v3 v11 w'=>∃ (nB:Int) (qL:Int),v3= .int .i64 nB /\ v11= .int .i64 qL /\ aa (aY.l0 kq l0 nB l0 (l0.length:Int) qL=some r) /\ aa (kq<=k) /\ aa (Below w.heap.size w w'))
  case atStart=>exact ⟨(0),(0),(by first|rfl|(simp;done)|(simp [*];done)),(by first|rfl|(simp;done)|(simp [*];done)),H',⟨Nat.le_refl _⟩,⟨bz HB⟩⟩
  clear H';obtain ⟨nB,qL,rfl,rfl,HA,xR,HB⟩:=hrel
  cases gk with
  |zero=>exact absurd HA.out (by simp [aY.l0])
  |succ k1=>
    have H:=HA.out;clear HA;simp only [aY.l0] at H
    by_cases c2:qL<(l0.length:Int)
    · rw [aq c2] at H
      have j4:decide (qL<(l0.length:Int))=true:=bN c2;clear c2
      by_cases c3:0<=qL
      rotate_left
      · rw [av c3] at H
        cases H
      rw [aq c3] at H
      have oJ:decide (0<=qL)=true:=bN c3;clear c3
      by_cases c4:qL<(l0.length:Int)
      · rw [aq c4] at H
        have mw:decide (qL<(l0.length:Int))=true:=bN c4;clear c4
        by_cases c5:(wrap64 (nB+((qH l0 qL).length:Int)))<0
        · rw [aq c5] at H
          cases H
        rw [av c5] at H
        have mJ:decide ((wrap64 (nB+((qH l0 qL).length:Int)))<0)=false:=gN c5;clear c5;have H':=aa.mk H;clear H;have AbN:0<=(qL:Int):=gA;have AbO:qL<(l0.length:Int):=gA;obtain ⟨AsA,AoC,AoD,AoE,GS,Np,Nq⟩:=XR gj.out qL AbN AbO
        cases AoE
        replace GS:=(HB.out.cell (dF w _ GS)).trans GS;have Akf:=aa.mk Nq;have Akg:=aa.mk Np;clear Nq Np;replace AbN:=eq_true AbN;replace AbO:=eq_true AbO
        go_wp2
        go_roundg k1
        case measure=>have:=xR.out;omega
        case rel=>exact ⟨(wrap64 (nB+((qH l0 qL).length:Int))),(wrap64 (qL+1)),(by first|rfl|(simp;done)|(simp [*];done)),(by first|rfl|(simp;done)|(simp [*];done)),H',⟨by have:=xR.out;omega⟩,⟨bz HB⟩⟩
      rw [av c4] at H
      cases H
    rw [av c2] at H
    have j4:decide (qL<(l0.length:Int))=false:=gN c2;clear c2;replace H:=dc H;obtain ⟨Sk,wD,H⟩:=H;replace H:(aY.l1 k1 Sk l0 (l0.length:Int) 0)=some r:=H;have A6:=aa.mk wD;clear wD;have H':=aa.mk H;clear H
    go_wp2_with (first|(go_at_call 132;(with_reducible show Calls _ _ #[.slice none 0 0,_] _ _);(refine (gM.calls _ _ ([]:List Int) nB Sk _ ?aE ?aG A6.out).mono ?_);(case aE=>exact Kd.Dc _ _);(case aG=>exact Nat.le_refl _);rintro e w7 ⟨AvN,rfl,gC,hb⟩;have aH:=aa.mk (Kd.bP gC (af (bz HB)));have aK:=aa.mk (au (bz HB) hb);clear HB;have Age:=aH;have HB:=aK;clear aH aK;(try clear hb);(try clear hb2);(try clear hk);(try clear hi);(try clear gC)))
    go_loopg [6,27] k1 (fun kq v6 v27 w'=>∃ (Pf:List Int) (qi:Int),v27= .int .i64 qi /\ aa (aY.l1 kq Pf l0 (l0.length:Int) qi=some r) /\ aa (kq<=k1) /\ aa (Kd.R (Kd.int .u8) 5 w' w.heap.size (fun _=>True) v6 Pf) /\ aa (Below w.heap.size w w'))
    case atStart=>exact ⟨(Sk),(0),(by first|rfl|(simp;done)|(simp [*];done)),H',⟨Nat.le_refl _⟩,⟨Kd.rz Age⟩,⟨bz HB⟩⟩
    clear H'
    try clear c2
    try clear j4
    obtain ⟨Pf,qi,rfl,HA,Yt,DG,HB⟩:=hrel
    cases gk with
    |zero=>exact absurd HA.out (by simp [aY.l1])
    |succ k2=>
      have H:=HA.out;clear HA;simp only [aY.l1] at H
      by_cases c8:qi<(l0.length:Int)
      rotate_left
      · rw [av c8] at H
        have nU:decide (qi<(l0.length:Int))=false:=gN c8;clear c8;obtain rfl:=cN H
        go_wp2
        go_ret
        exact ⟨_,by first|rfl|(simp [aj,ak]<;>rfl)|(simp [*,aj,ak]<;>rfl),by (with_reducible repeat (first|apply Kd.fg|apply Kd.eV|apply Kd.fj));exact DG.out,bz HB⟩
      rw [aq c8] at H
      have nU:decide (qi<(l0.length:Int))=true:=bN c8;clear c8
      by_cases c9:0<=qi
      rotate_left
      · rw [av c9] at H
        cases H
      rw [aq c9] at H
      have wW:decide (0<=qi)=true:=bN c9;clear c9
      by_cases zB:qi<(l0.length:Int)
      rotate_left
      · rw [av zB] at H
        cases H
      rw [aq zB] at H
      have uy:decide (qi<(l0.length:Int))=true:=bN zB;clear zB
      by_cases qX:Pf.length+(qH l0 qi).length<140737488355328
      · rw [aq qX] at H
        have RC:=aa.mk qX;clear qX;obtain ⟨Agf,Jt⟩:∃ y_:List Int,y_=(Pf++(qH l0 qi)):=⟨_,rfl⟩
        replace H:(aY.l1 k2 Agf l0 (l0.length:Int) (wrap64 (qi+1)))=some r:=by first|(rw [Jt];with_reducible exact H)|(have kE:=(bD _ _).symm.trans H;rw [Jt];with_reducible exact kE)|(have kE:=(bD _ _).symm.trans H;with_reducible exact kE)|with_reducible exact H|(rw [Jt];exact H)|exact H
        have Agg:=aa.mk Jt;clear Jt;have H':=aa.mk H;clear H;have AbP:0<=(qi:Int):=gA;have AbQ:qi<(l0.length:Int):=gA;obtain ⟨AsB,AoG,AoH,AoI,GU,Nr,Ns⟩:=XR gj.out qi AbP AbQ
        cases AoI
        replace GU:=(HB.out.cell (dF w _ GU)).trans GU;have VP:=aa.mk Ns;have Akh:=aa.mk Nr;clear Ns Nr;replace AbP:=eq_true AbP;replace AbQ:=eq_true AbQ
        go_wp2_with (first|((with_reducible refine fB (b:= .append) (xs:= #[.tmp 31,.tmp 32]) rfl ?_);at_builtin;refine Kd.gz (Kd.int .u8) (w0:=w) w.heap.size rfl (.tmp 31) (.tmp 32) 23 5 (.int .u8 0) 1 rfl Try.underlying23 fY rfl (by decide) (by omega) u6 Pf (qH l0 qi) _ _ _ (fun _=>True) (fun _=>False) rfl rfl ?aO ?aR (fun _ _ h=>h) (fun _ h=>h.elim) ?aF ?aB ?aS ?aL ?_;(case aR=>exact Kd.aW VP.out (bz HB));(case aB=>exact bz HB);(case aF=>exact (fun _ _=>trivial));(case aO=>exact (Kd.rz DG));(case aS=>exact (af (bz HB)));(case aL=>have:=RC.out;omega);intro AvO nP ho hb hg hat;rw [<- Agg.out] at ho;have aH:=aa.mk (hb);have aK:=aa.mk (ho);clear HB;clear DG;have HB:=aH;have Agh:=aK;clear aH aK;clear ho hb hg hat))
        go_roundg k2
        case measure=>have:=xR.out;have:=Yt.out;omega
        case rel=>exact ⟨(Agf),(wrap64 (qi+1)),(by first|rfl|(simp;done)|(simp [*];done)),H',⟨by have:=xR.out;have:=Yt.out;omega⟩,⟨Kd.rz Agh⟩,⟨bz HB⟩⟩
      rw [av qX] at H
      cases H
attribute [local go_sem] dI dJ eI eJ cO cP dK dL
mutual
def fe.j0:Nat ->Bool ->Int ->Int ->Int ->Int ->Int ->Int ->Int ->Int ->List Int ->List Int ->Option (List Int×Int)
 |0,_,_,_,_,_,_,_,_,_,_,_=>none
 |k+1,x7,zV,zW,Cy,Cz,CA,zX,zY,zZ,xS,z3=>if x7=true then (some (([]:List Int),21)) else (if (wrap64 ((wrap64 (20+(xS.length:Int)))+(z3.length:Int)))>65515 then (some (([]:List Int),23)) else ((some (([Cy,Cz]:List Int):List Int)).bind fun jy=>(fe.l0 k (([(zV / 256) % 256,(zV) % 256,(zW / 256) % 256,(zW) % 256]:List Int)) jy (jy.length:Int) 0 zV zW Cy Cz CA zX zY zZ xS z3)))
def fe.l0:Nat ->List Int ->List Int ->Int ->Int ->Int ->Int ->Int ->Int ->Int ->Int ->Int ->Int ->List Int ->List Int ->Option (List Int×Int)
 |0,_,_,_,_,_,_,_,_,_,_,_,_,_,_=>none
 |k+1,x4,x48,x49,Yu,zV,zW,Cy,Cz,CA,zX,zY,zZ,xS,z3=>if Yu<x49 then (if 0<=Yu then (if Yu<(x48.length:Int) then ((some (([((rd x48 Yu) / 16777216) % 256,((rd x48 Yu) / 65536) % 256,((rd x48 Yu) / 256) % 256,(rd x48 Yu) % 256]:List Int):List Int)).bind fun DH=>(if x4.length+DH.length<140737488355328 then (fe.l0 k (x4++DH) x48 x49 (wrap64 (Yu+1)) zV zW Cy Cz CA zX zY zZ xS z3) else (none))) else (none)) else (none)) else ((some (([((((wrap64 (20+(xS.length:Int))) % 256) / 4)*16) % 256,CA,(zX / 256) % 256,(zX) % 256,(zY / 256) % 256,(zY) % 256,(zZ / 256) % 256,(zZ) % 256]:List Int):List Int)).bind fun uB=>(if x4.length+uB.length<140737488355328 then ((aY.f k (([(x4++uB),xS,z3]:List (List Int)))).bind fun Pg=>(some (Pg,0))) else (none)))
end
def fe.f (k:Nat) (aU:Int) (bh:Int) (bn:Int) (bu:Int) (dP:Int) (dR:Int) (dX:Int) (dY:Int) (bH:List Int) (cE:List Int):Option (List Int×Int):=if ((bH.length:Int) % 4)=0 then (fe.j0 k (decide ((bH.length:Int)>40)) aU bh bn bu dP dR dX dY bH cE) else (fe.j0 k true aU bh bn bu dP dR dX dY bH cE)
theorem fe.calls (k:Nat) (aU:Int) (bh:Int) (bn:Int) (bu:Int) (dP:Int) (dR:Int) (dX:Int) (dY:Int) (o5:Nat ->Prop) (jq:Option Addr) (jr:Nat) (bH:List Int) (o7:Nat ->Prop) (js:Option Addr) (ju:Nat) (cE:List Int) (r1:List Int) (r2:Int) (w:World) (Agi:Kd.V (Kd.int .u8) 5 w w.heap.size (fun k_=>o5 k_) (.slice jq bH.length jr) bH) (Agj:Kd.V (Kd.int .u8) 5 w w.heap.size (fun k_=>o7 k_) (.slice js cE.length ju) cE) (h:fe.f k aU bh bn bu dP dR dX dY bH cE=some (r1,r2)):
  Calls Try.prog 110 #[.agg #[.int .u16 aU,.int .u16 bh,.int .u32 bn,.int .u32 bu,.int .u8 dP,.int .u16 dR,.int .u16 dX,.int .u16 dY,.slice jq bH.length jr,.slice js cE.length ju]] w fun e w'=>∃ oW:Value,e= .returned (.tuple #[oW,.int .i64 r2]) /\ Kd.R (Kd.int .u8) 5 w' w.heap.size (fun k_=>(w.heap.size<=k_)) oW r1 /\ Below w.heap.size w w':=by
 have uC:=Try.underlying137;have Ju:=aa.mk (show Kd.V (Kd.int .u8) 5 w w.heap.size (fun k_=>((o5 k_ \/ o7 k_) \/ w.heap.size<=k_)) (.slice jq bH.length jr) bH from Kd.pI Agi (fun k_ hk=> .inl (.inl hk)));have Jv:=aa.mk (show Kd.V (Kd.int .u8) 5 w w.heap.size (fun k_=>((o5 k_ \/ o7 k_) \/ w.heap.size<=k_)) (.slice js cE.length ju) cE from Kd.pI Agj (fun k_ hk=> .inl (.inr hk)));have HB:=gI w;have H:(if ((bH.length:Int) % 4)=0 then (fe.j0 k (decide ((bH.length:Int)>40)) aU bh bn bu dP dR dX dY bH cE) else (fe.j0 k true aU bh bn bu dP dR dX dY bH cE))=some (r1,r2):=h;clear h;have LO:=aa.mk H;clear H
 go_enter Try.func110,Try.ntmps110
 go_upto_region 1 with (first|((with_reducible refine aA (N:=1) rfl ?_);(try (refine eP (by rfl) ?_;dsimp only));refine aC ?hg (N:=1) ?hd (cs:= #[.int .u16 aU,.int .u16 bh,.int .u32 bn,.int .u32 bu,.int .u8 dP,.int .u16 dR,.int .u16 dX,.int .u16 dY,.slice jq bH.length jr,.slice js cE.length ju]) (t:=137) ?hr ?_;(case hd=>rfl);(case hg=>rfl);(case hr=>first|(go_simp;done)|(go_simp;rfl));intro iJ hg w3 bJ hb;have aH:=aa.mk (Kd.Cs (Kd.IQ (by (with_reducible repeat (first|apply Kd.iH|apply Kd.iI|apply Kd.jN));exact Ju.out) iJ (Nat.le_of_eq hg.symm)) hb);have aK:=aa.mk (Kd.Cs (Kd.IQ (by (with_reducible repeat (first|apply Kd.iH|apply Kd.iI|apply Kd.jN));exact Jv.out) iJ (Nat.le_of_eq hg.symm)) hb);have bt:=aa.mk (au (bz HB) hb);have cC:=aa.mk (bJ);have uA:=aa.mk ((by rw [hg];exact (af (bz HB)):w.heap.size<=iJ));have yN:=aa.mk ((by rw [hg];exact (af (bz HB)):w.heap.size<=iJ));clear Ju;clear Jv;clear HB;have Ju:=aH;have Jv:=aK;have HB:=bt;have cF:=cC;have AsD:=uA;have AsE:=yN;clear aH aK bt cC uA yN;clear hb bJ hg))
 (try simp only [Act.put,List.setIfInBounds_toArray,List.set_cons_zero,List.set_cons_succ])
 go_cut [7] (fun v7 wc=>∃ (kq:Nat) (qM:Bool),v7= .bool qM /\ aa (fe.j0 kq qM aU bh bn bu dP dR dX dY bH cE=some (r1,r2)) /\ aa (kq<=k) /\ aa (Kd.V (Kd.int .u8) 5 wc w.heap.size (fun k_=>((o5 k_ \/ o7 k_) \/ w.heap.size<=k_) /\ k_≠iJ) (.slice jq bH.length jr) bH) /\ aa (Kd.V (Kd.int .u8) 5 wc w.heap.size (fun k_=>((o5 k_ \/ o7 k_) \/ w.heap.size<=k_) /\ k_≠iJ) (.slice js cE.length ju) cE) /\ aa (wc.heap[iJ]?=some (.cells #[.int .u16 aU,.int .u16 bh,.int .u32 bn,.int .u32 bu,.int .u8 dP,.int .u16 dR,.int .u16 dX,.int .u16 dY,(.slice jq bH.length jr),(.slice js cE.length ju)] 137 (0,0))) /\ aa (Below w.heap.size w wc))
 case first=>
  have H:=LO.out;clear LO
  by_cases c4:((bH.length:Int) % 4)=0
  ·rw [aq c4] at H
   have mw:(((bH.length:Int) % 4)==0)=true:=fF c4;have yh:(((bH.length:Int) % 4) !=0)=false:=kL c4;clear c4
   (first|rw [mw]|(simp only [gK,kD];rw [mw])|skip)
   have H':=aa.mk H;clear H;have VQ:=ru cF.out;have VR:=ae cF.out
   go_wp2
   go_meet
   case rel=>exact ⟨_,(decide ((bH.length:Int)>40)),(by first|rfl|(simp;done)|(simp [*];done)),H',⟨by first|omega|exact Nat.le_refl _⟩,⟨by (with_reducible repeat (first|apply Kd.iH|apply Kd.iI|apply Kd.jN));exact Ju.out⟩,⟨by (with_reducible repeat (first|apply Kd.iH|apply Kd.iI|apply Kd.jN));exact Jv.out⟩,⟨kz cF⟩,⟨bz HB⟩⟩
  rw [av c4] at H
  have mw:(((bH.length:Int) % 4)==0)=false:=fq c4;have yh:(((bH.length:Int) % 4) !=0)=true:=lf c4
  (first|rw [mw]|(simp only [gK,kD];rw [mw])|skip)
  have H':=aa.mk H;clear H;have Nt:=ru cF.out;have Nu:=ae cF.out
  go_wp2
  go_meet
  case rel=>exact ⟨_,(true),(by first|rfl|(simp;done)|(simp [*];done)),H',⟨by first|omega|exact Nat.le_refl _⟩,⟨by (with_reducible repeat (first|apply Kd.iH|apply Kd.iI|apply Kd.jN));exact Ju.out⟩,⟨by (with_reducible repeat (first|apply Kd.iH|apply Kd.iI|apply Kd.jN));exact Jv.out⟩,⟨kz cF⟩,⟨bz HB⟩⟩
 clear LO;obtain ⟨kq,qM,rfl,HA,HJ1,fC,fD,cF,HB⟩:=hcut
 cases kq with
 |zero=>exact absurd HA.out (by simp [fe.j0])
 |succ Ph=>
  have H:=HA.out;clear HA;simp only [fe.j0] at H
  by_cases c7:qM=true
  ·subst c7
   have H1:(some (([]:List Int),21))=some (r1,r2):=by rw [aq rfl] at H;exact H
   clear H;have H:=H1;clear H1;simp only [Option.some.injEq,Prod.mk.injEq] at H
   obtain ⟨rfl,rfl⟩:=H
   go_wp2
   go_ret2
   exact ⟨_,by first|rfl|(simp [aj,ak]<;>rfl)|(simp [*,aj,ak]<;>rfl),by first|exact Kd.bX _ _ _ _ _|exact Kd.jn _ _ _ _ _|exact Kd.jo _ _ _ _ _|exact Kd.jl _ _ _ _ _|exact Kd.jm _ _ _ _ _,bz HB⟩
  replace c7:=zE c7
  subst c7;have H1:(if (wrap64 ((wrap64 (20+(bH.length:Int)))+(cE.length:Int)))>65515 then (some (([]:List Int),23)) else ((some (([bn,bu]:List Int):List Int)).bind fun jy=>(fe.l0 Ph (([(aU / 256) % 256,(aU) % 256,(bh / 256) % 256,(bh) % 256]:List Int)) jy (jy.length:Int) 0 aU bh bn bu dP dR dX dY bH cE)))=some (r1,r2):=by rw [av (show ¬ (false=true) by decide)] at H;exact H
  clear H;have H:=H1;clear H1
  by_cases c8:(wrap64 ((wrap64 (20+(bH.length:Int)))+(cE.length:Int)))>65515
  ·rw [aq c8] at H
   have nU:decide (65515<(wrap64 ((wrap64 (20+(bH.length:Int)))+(cE.length:Int))))=true:=bN c8;clear c8;simp only [Option.some.injEq,Prod.mk.injEq] at H
   obtain ⟨rfl,rfl⟩:=H;have Dy:=cz cF.out 0 rfl;have Dz:=cz cF.out 1 rfl;have DA:=cz cF.out 2 rfl;have DB:=cz cF.out 3 rfl;have GV:=cz cF.out 4 rfl;have AbS:=cz cF.out 5 rfl;have AbT:=cz cF.out 6 rfl;have AbU:=cz cF.out 7 rfl;have AbV:=cz cF.out 8 rfl;have AbW:=cz cF.out 9 rfl;have DC:=ae cF.out 0;have DD:=ae cF.out 1;have DE:=ae cF.out 2;have DF:=ae cF.out 3;have GW:=ae cF.out 4;have AbX:=ae cF.out 5;have AbY:=ae cF.out 6;have AbZ:=ae cF.out 7;have Ab0:=ae cF.out 8;have Ab1:=ae cF.out 9
   go_wp2
   go_ret2
   exact ⟨_,by first|rfl|(simp [aj,ak]<;>rfl)|(simp [*,aj,ak]<;>rfl),by first|exact Kd.bX _ _ _ _ _|exact Kd.jn _ _ _ _ _|exact Kd.jo _ _ _ _ _|exact Kd.jl _ _ _ _ _|exact Kd.jm _ _ _ _ _,bz HB⟩
  rw [av c8] at H
  have nU:decide (65515<(wrap64 ((wrap64 (20+(bH.length:Int)))+(cE.length:Int))))=false:=gN c8;clear c8;obtain ⟨AoJ,Sl⟩:∃ y_:List Int,y_=(([(aU / 256) % 256,(aU) % 256,(bh / 256) % 256,(bh) % 256]:List Int)):=⟨_,rfl⟩
  rw [<- Sl] at H
  have Yv:=aa.mk Sl;clear Sl;obtain ⟨jy,Sm⟩:∃ y_:List Int,y_=(([bn,bu]:List Int)):=⟨_,rfl⟩
  rw [<- Sm] at H
  have Yw:=aa.mk Sm;clear Sm;have H':=aa.mk H;clear H;have tB:=cz cF.out 0 rfl;have tC:=cz cF.out 1 rfl;have tD:=cz cF.out 2 rfl;have tE:=cz cF.out 3 rfl;have z4:=cz cF.out 4 rfl;have CB:=cz cF.out 5 rfl;have CC:=cz cF.out 6 rfl;have CD:=cz cF.out 7 rfl;have CE:=cz cF.out 8 rfl;have CF:=cz cF.out 9 rfl;have tF:=ae cF.out 0;have tG:=ae cF.out 1;have tH:=ae cF.out 2;have tI:=ae cF.out 3;have z5:=ae cF.out 4;have CG:=ae cF.out 5;have CI:=ae cF.out 6;have CJ:=ae cF.out 7;have CK:=ae cF.out 8;have CL:=ae cF.out 9
  go_wp2_with (first|((with_reducible refine aA (N:=43) rfl ?_);(try (refine eP (by rfl) ?_;dsimp only));refine Kd.qh (Kd.int .u8) _ 5 ?hg (N:=43) ?hd (xs:=([(aU / 256) % 256,(aU) % 256,(bh / 256) % 256,(bh) % 256]:List Int)) (inner:=[.int .u8 ((aU / 256) % 256),.int .u8 ((aU) % 256),.int .u8 ((bh / 256) % 256),.int .u8 ((bh) % 256)]) (ok:=fun _=>True) (qW:=fun _=>True) ?hr ?hp (fun _ hk=>hk) trivial (Below.refl _ _) (Nat.le_refl _) (by simp) ?_;(case hd=>rfl);(case hg=>rfl);(case hr=>first|(go_simp;done)|(go_simp;simp only [IntKind.wrap_u8,IntKind.wrap_u16,IntKind.wrap_u32];done)|(go_simp;rfl));(case hp=>exact (cD.one (show Kd.M (Kd.int .u8) _ _ _ ((aU / 256) % 256) [.int .u8 ((aU / 256) % 256)] from rfl) (cD.one (show Kd.M (Kd.int .u8) _ _ _ ((aU) % 256) [.int .u8 ((aU) % 256)] from rfl) (cD.one (show Kd.M (Kd.int .u8) _ _ _ ((bh / 256) % 256) [.int .u8 ((bh / 256) % 256)] from rfl) (cD.one (show Kd.M (Kd.int .u8) _ _ _ ((bh) % 256) [.int .u8 ((bh) % 256)] from rfl) (cD.none _ _))))));intro AvP sn Bd hb fT iN;clear fT iN;(first|rw [<- Yv.out] at Bd|(simp only [Int.reduceToNat] at Bd;rw [<- Yv.out] at Bd));have aH:=aa.mk (Kd.mS (by (with_reducible repeat (first|apply Kd.iH|apply Kd.iI|apply Kd.jN));exact fC.out) (Kd.j3 Bd) hb);have aK:=aa.mk (Kd.mS (by (with_reducible repeat (first|apply Kd.iH|apply Kd.iI|apply Kd.jN));exact fD.out) (Kd.j3 Bd) hb);have bt:=aa.mk (Kd.bP (Kd.yX (M:=fun k_=>(w.heap.size<=k_)) Bd (af (bz HB)) (fun k_ h_=>h_)) (af (bz HB)));have cC:=aa.mk (bq (kz cF) hb);have uA:=aa.mk (au (bz HB) hb);clear fC;clear fD;clear cF;clear HB;have fC:=aH;have fD:=aK;have Nv:=bt;have cF:=cC;have HB:=uA;clear aH aK bt cC uA;clear hb Bd;have GG:sn.cell? ⟨iJ,0,none⟩=some (.int .u16 aU):=cz cF.out 0 rfl;have GH:sn.cell? ⟨iJ,1,none⟩=some (.int .u16 bh):=cz cF.out 1 rfl;have GI:sn.cell? ⟨iJ,2,none⟩=some (.int .u32 bn):=cz cF.out 2 rfl;have GJ:sn.cell? ⟨iJ,3,none⟩=some (.int .u32 bu):=cz cF.out 3 rfl;have VS:sn.cell? ⟨iJ,4,none⟩=some (.int .u8 dP):=cz cF.out 4 rfl;have VT:sn.cell? ⟨iJ,5,none⟩=some (.int .u16 dR):=cz cF.out 5 rfl;have VU:sn.cell? ⟨iJ,6,none⟩=some (.int .u16 dX):=cz cF.out 6 rfl;have VV:sn.cell? ⟨iJ,7,none⟩=some (.int .u16 dY):=cz cF.out 7 rfl;have VW:sn.cell? ⟨iJ,8,none⟩=some (.slice jq bH.length jr):=cz cF.out 8 rfl;have VX:sn.cell? ⟨iJ,9,none⟩=some (.slice js cE.length ju):=cz cF.out 9 rfl;have GK:=ae cF.out 0;have GL:=ae cF.out 1;have GM:=ae cF.out 2;have GQ:=ae cF.out 3;have VY:=ae cF.out 4;have VZ:=ae cF.out 5;have V0:=ae cF.out 6;have V1:=ae cF.out 7;have V2:=ae cF.out 8;have V3:=ae cF.out 9)|((with_reducible refine aA (N:=48) rfl ?_);(try (refine eP (by rfl) ?_;dsimp only));refine Kd.qh (Kd.int .u32) _ 27 ?hg (N:=48) ?hd (xs:=([bn,bu]:List Int)) (inner:=[.int .u32 bn,.int .u32 bu]) (ok:=fun _=>True) (qW:=fun _=>True) ?hr ?hp (fun _ hk=>hk) trivial (Below.refl _ _) (Nat.le_refl _) (by simp) ?_;(case hd=>rfl);(case hg=>rfl);(case hr=>first|(go_simp;done)|(go_simp;rfl));(case hp=>exact (cD.one (show Kd.M (Kd.int .u32) _ _ _ bn [.int .u32 bn] from rfl) (cD.one (show Kd.M (Kd.int .u32) _ _ _ bu [.int .u32 bu] from rfl) (cD.none _ _))));intro AvQ qY LP hb fT iN;clear fT iN;(first|rw [<- Yw.out] at LP|(simp only [Int.reduceToNat] at LP;rw [<- Yw.out] at LP));have aH:=aa.mk (Kd.mS (by (with_reducible repeat (first|apply Kd.iH|apply Kd.iI|apply Kd.jN));exact fC.out) (Kd.j3 LP) hb);have aK:=aa.mk (Kd.mS (by (with_reducible repeat (first|apply Kd.iH|apply Kd.iI|apply Kd.jN));exact fD.out) (Kd.j3 LP) hb);have bt:=aa.mk (Kd.fX (Kd.rz Nv) hb);have cC:=aa.mk (Kd.bP (Kd.yX (M:=fun k_=>(w.heap.size<=k_)) LP (af (bz HB)) (fun k_ h_=>h_)) (af (bz HB)));have uA:=aa.mk (bq (kz cF) hb);have yN:=aa.mk (au (bz HB) hb);clear fC;clear fD;clear Nv;clear cF;clear HB;have fC:=aH;have fD:=aK;have Nv:=bt;have Yx:=cC;have cF:=uA;have HB:=yN;clear aH aK bt cC uA yN;clear hb LP;obtain ⟨z6,yy,AoK⟩:=Kd.dn Yx.out;subst AoK))
  go_loopg [4,50] Ph (fun kq v4 v50 w'=>∃ (Be:List Int) (jE:Int),v50= .int .i64 jE /\ aa (fe.l0 kq Be jy (jy.length:Int) jE aU bh bn bu dP dR dX dY bH cE=some (r1,r2)) /\ aa (kq<=Ph) /\ aa (Kd.R (Kd.int .u8) 5 w' w.heap.size (fun k_=>(w.heap.size<=k_)) v4 Be) /\ aa (Kd.R (Kd.int .u32) 27 w' w.heap.size (fun k_=>(w.heap.size<=k_)) (.slice z6 jy.length yy) jy) /\ aa (Kd.V (Kd.int .u8) 5 w' w.heap.size (fun k_=>((o5 k_ \/ o7 k_) \/ w.heap.size<=k_) /\ some k_≠(v4:Value).ownBlock /\ some k_≠((.slice z6 jy.length yy):Value).ownBlock /\ k_≠iJ) (.slice jq bH.length jr) bH) /\ aa (Kd.V (Kd.int .u8) 5 w' w.heap.size (fun k_=>((o5 k_ \/ o7 k_) \/ w.heap.size<=k_) /\ some k_≠(v4:Value).ownBlock /\ some k_≠((.slice z6 jy.length yy):Value).ownBlock /\ k_≠iJ) (.slice js cE.length ju) cE) /\ aa (w'.heap[iJ]?=some (.cells #[.int .u16 aU,.int .u16 bh,.int .u32 bn,.int .u32 bu,.int .u8 dP,.int .u16 dR,.int .u16 dX,.int .u16 dY,(.slice jq bH.length jr),(.slice js cE.length ju)] 137 (0,0))) /\ aa (Below w.heap.size w w'))
  case atStart=>exact ⟨(AoJ),(0),(by first|rfl|(simp;done)|(simp [*];done)),H',⟨Nat.le_refl _⟩,⟨by (with_reducible repeat (first|apply Kd.fg|apply Kd.eV|apply Kd.fj));exact Kd.dA Nv.out (fun _ hk=>hk.1)⟩,⟨by (with_reducible repeat (first|apply Kd.fg|apply Kd.eV|apply Kd.fj));exact Kd.dA Yx.out (fun _ hk=>hk.1)⟩,⟨by (with_reducible repeat (first|apply Kd.iH|apply Kd.iI|apply Kd.jN));exact Kd.pI fC.out (fun _ hk=>⟨hk.1.1.1,⟨hk.1.2,⟨hk.2,hk.1.1.2⟩⟩⟩)⟩,⟨by (with_reducible repeat (first|apply Kd.iH|apply Kd.iI|apply Kd.jN));exact Kd.pI fD.out (fun _ hk=>⟨hk.1.1.1,⟨hk.1.2,⟨hk.2,hk.1.1.2⟩⟩⟩)⟩,⟨kz cF⟩,⟨bz HB⟩⟩
  clear H'
  try clear c7
  try clear c8
  try clear nU
  try clear tB
  try clear tC
  try clear tD
  try clear tE
  try clear z4
  try clear CB
  try clear CC
  try clear CD
  try clear CE
  try clear CF
  try clear GG
  try clear GH
  try clear GI
  try clear GJ
  try clear VS
  try clear VT
  try clear VU
  try clear VV
  try clear VW
  try clear VX
  try clear tF
  try clear tG
  try clear tH
  try clear tI
  try clear z5
  try clear CG
  try clear CI
  try clear CJ
  try clear CK
  try clear CL
  try clear GK
  try clear GL
  try clear GM
  try clear GQ
  try clear VY
  try clear VZ
  try clear V0
  try clear V1
  try clear V2
  try clear V3
  obtain ⟨Be,jE,rfl,HA,Yt,yz,nD,fC,fD,cF,HB⟩:=hrel
  cases gk with
  |zero=>exact absurd HA.out (by simp [fe.l0])
  |succ k2=>
   have H:=HA.out;clear HA;simp only [fe.l0] at H
   by_cases rH:jE<(jy.length:Int)
   ·rw [aq rH] at H
    have I0:decide (jE<(jy.length:Int))=true:=bN rH;clear rH
    by_cases V4:0<=jE
    rotate_left
    ·rw [av V4] at H
     cases H
    rw [aq V4] at H
    have AsF:decide (0<=jE)=true:=bN V4;clear V4
    by_cases AW:jE<(jy.length:Int)
    rotate_left
    ·rw [av AW] at H
     cases H
    rw [aq AW] at H
    have Rj:decide (jE<(jy.length:Int))=true:=bN AW;clear AW;obtain ⟨DH,Jw⟩:∃ y_:List Int,y_=(([((rd jy jE) / 16777216) % 256,((rd jy jE) / 65536) % 256,((rd jy jE) / 256) % 256,(rd jy jE) % 256]:List Int)):=⟨_,rfl⟩
    replace H:(if Be.length+DH.length<140737488355328 then (fe.l0 k2 (Be++DH) jy (jy.length:Int) (wrap64 (jE+1)) aU bh bn bu dP dR dX dY bH cE) else (none))=some (r1,r2):=by first|(rw [Jw];with_reducible exact H)|(have kE:=(bD _ _).symm.trans H;rw [Jw];with_reducible exact kE)|(have kE:=(bD _ _).symm.trans H;with_reducible exact kE)|with_reducible exact H|(rw [Jw];exact H)|exact H
    have Yy:=aa.mk Jw;clear Jw
    by_cases LQ:Be.length+DH.length<140737488355328
    ·rw [aq LQ] at H
     have Sn:=aa.mk LQ;clear LQ;obtain ⟨Agk,Jx⟩:∃ y_:List Int,y_=(Be++DH):=⟨_,rfl⟩
     replace H:(fe.l0 k2 Agk jy (jy.length:Int) (wrap64 (jE+1)) aU bh bn bu dP dR dX dY bH cE)=some (r1,r2):=by first|(rw [Jx];with_reducible exact H)|(have kE:=(bD _ _).symm.trans H;rw [Jx];with_reducible exact kE)|(have kE:=(bD _ _).symm.trans H;with_reducible exact kE)|with_reducible exact H|(rw [Jx];exact H)|exact H
     have Agl:=aa.mk Jx;clear Jx;have H':=aa.mk H;clear H;have Ab2:0<=(jE:Int):=gA;have Ab3:jE<(jy.length:Int):=gA;obtain ⟨Yz,AoL,Aki⟩:=Kd.dG (Kd.ay nD.out).2.2 jE Ab2 Ab3
     cases AoL
     replace Ab2:=eq_true Ab2;replace Ab3:=eq_true Ab3
     go_wp2_with (first|((with_reducible refine aA (N:=66) rfl ?_);(try (refine eP (by rfl) ?_;dsimp only));refine Kd.qh (Kd.int .u8) _ 5 ?hg (N:=66) ?hd (xs:=([((rd jy jE) / 16777216) % 256,((rd jy jE) / 65536) % 256,((rd jy jE) / 256) % 256,(rd jy jE) % 256]:List Int)) (inner:=[.int .u8 (((rd jy jE) / 16777216) % 256),.int .u8 (((rd jy jE) / 65536) % 256),.int .u8 (((rd jy jE) / 256) % 256),.int .u8 ((rd jy jE) % 256)]) (ok:=fun _=>True) (qW:=fun _=>True) ?hr ?hp (fun _ hk=>hk) trivial (Below.refl _ _) (Nat.le_refl _) (by simp) ?_;(case hd=>rfl);(case hg=>rfl);(case hr=>first|(go_simp;done)|(go_simp;simp only [IntKind.wrap_u8,IntKind.wrap_u16,IntKind.wrap_u32];done)|(go_simp;rfl));(case hp=>exact (cD.one (show Kd.M (Kd.int .u8) _ _ _ (((rd jy jE) / 16777216) % 256) [.int .u8 (((rd jy jE) / 16777216) % 256)] from rfl) (cD.one (show Kd.M (Kd.int .u8) _ _ _ (((rd jy jE) / 65536) % 256) [.int .u8 (((rd jy jE) / 65536) % 256)] from rfl) (cD.one (show Kd.M (Kd.int .u8) _ _ _ (((rd jy jE) / 256) % 256) [.int .u8 (((rd jy jE) / 256) % 256)] from rfl) (cD.one (show Kd.M (Kd.int .u8) _ _ _ ((rd jy jE) % 256) [.int .u8 ((rd jy jE) % 256)] from rfl) (cD.none _ _))))));intro AvS w21 Jy hb fT iN;clear fT iN;(first|rw [<- Yy.out] at Jy|(simp only [Int.reduceToNat] at Jy;rw [<- Yy.out] at Jy));have aH:=aa.mk (Kd.mQ (Kd.rz yz) (Kd.j3 Jy) hb);have aK:=aa.mk (Kd.fX (Kd.rz nD) hb);have bt:=aa.mk (Kd.mS (by (with_reducible repeat (first|apply Kd.iH|apply Kd.iI|apply Kd.jN));exact fC.out) (Kd.j3 Jy) hb);have cC:=aa.mk (Kd.mS (by (with_reducible repeat (first|apply Kd.iH|apply Kd.iI|apply Kd.jN));exact fD.out) (Kd.j3 Jy) hb);have uA:=aa.mk (Kd.bP (Kd.qZ (Kd.yX (M:=fun k_=>(w.heap.size<=k_)) Jy (af (bz HB)) (fun k_ h_=>h_)) (Kd.ox (Kd.rz yz))) (af (bz HB)));have yN:=aa.mk (bq (kz cF) hb);have BH:=aa.mk (au (bz HB) hb);clear yz;clear nD;clear fC;clear fD;clear cF;clear HB;have yz:=aH;have nD:=aK;have fC:=bt;have fD:=cC;have FG:=uA;have cF:=yN;have HB:=BH;clear aH aK bt cC uA yN BH;clear hb Jy;obtain ⟨Ab5,Ab6,AoM⟩:=Kd.dn FG.out;subst AoM)|((with_reducible refine fB (b:= .append) (xs:= #[.tmp 54,.tmp 66]) rfl ?_);(try (refine eP (by rfl) ?_;dsimp only));at_builtin;refine Kd.gz (Kd.int .u8) (w0:=w) w.heap.size rfl (.tmp 54) (.tmp 66) 23 5 (.int .u8 0) 1 rfl Try.underlying23 fY rfl (by decide) (by omega) u4 Be DH _ _ _ (fun k_=>(w.heap.size<=k_) /\ some k_≠(.slice Ab5 DH.length Ab6:Value).ownBlock) (fun _=>False) rfl rfl ?aO ?aR (fun _ _ h=>h) (fun _ h=>h.elim) ?aF ?aB ?aS ?aL ?_;(case aR=>repeat (first|exact (Kd.ay FG.out).2.2|(with_reducible refine Kd.fH ?_ _)|(with_reducible refine Kd.fz ?_ _)|(with_reducible refine Kd.gQ ?_)));(case aB=>exact bz HB);(case aF=>exact (fun k_ hk=>⟨(Nat.le_trans (af (bz HB)) hk),Kd.mG (Kd.ox (Kd.rz FG)) k_ hk⟩));(case aO=>exact (Kd.rz yz));(case aS=>exact (af (bz HB)));(case aL=>have:=Sn.out;omega);intro AvT w23 ho hb hg hat;rw [<- Agl.out] at ho;have aH:=aa.mk (Kd.uO (Kd.rz nD) (Kd.rO (Kd.rz yz)) (by decide) hg);have aK:=aa.mk (Kd.zN (ok:=(fun k_=>((o5 k_ \/ o7 k_) \/ w.heap.size<=k_) /\ some k_≠(.slice (some Yz) jy.length yy:Value).ownBlock /\ some k_≠(.slice Ab5 DH.length Ab6:Value).ownBlock /\ k_≠iJ)) (by (with_reducible repeat (first|apply Kd.iH|apply Kd.iI|apply Kd.jN));exact Kd.pI fC.out (fun _ hk=>⟨⟨hk.1.1,⟨hk.1.2.2.1,⟨hk.2,hk.1.2.2.2⟩⟩⟩,hk.1.2.1⟩)) hg hat);have bt:=aa.mk (Kd.zN (ok:=(fun k_=>((o5 k_ \/ o7 k_) \/ w.heap.size<=k_) /\ some k_≠(.slice (some Yz) jy.length yy:Value).ownBlock /\ some k_≠(.slice Ab5 DH.length Ab6:Value).ownBlock /\ k_≠iJ)) (by (with_reducible repeat (first|apply Kd.iH|apply Kd.iI|apply Kd.jN));exact Kd.pI fD.out (fun _ hk=>⟨⟨hk.1.1,⟨hk.1.2.2.1,⟨hk.2,hk.1.2.2.2⟩⟩⟩,hk.1.2.1⟩)) hg hat);have cC:=aa.mk (gW (kz cF) hg (Kd.nk yz.out cF.out (by decide)));have uA:=aa.mk (Kd.nS (ok:=(fun k_=>(w.heap.size<=k_))) (by (with_reducible repeat (first|apply Kd.fg|apply Kd.eV|apply Kd.fj));exact Kd.dA FG.out (fun _ hk=>⟨hk.1.1,hk.2⟩)) hg hat);have yN:=aa.mk (hb);have BH:=aa.mk (ho);clear nD;clear fC;clear fD;clear cF;clear FG;clear HB;clear yz;have nD:=aH;have fC:=aK;have fD:=bt;have cF:=cC;have FG:=uA;have HB:=yN;have Agm:=BH;clear aH aK bt cC uA yN BH;clear ho hb hg hat))
     go_roundg k2
     case measure=>have:=HJ1.out;have:=Yt.out;omega
     case rel=>exact ⟨(Agk),(wrap64 (jE+1)),(by first|rfl|(simp;done)|(simp [*];done)),H',⟨by have:=HJ1.out;have:=Yt.out;omega⟩,⟨by (with_reducible repeat (first|apply Kd.fg|apply Kd.eV|apply Kd.fj));exact Kd.dA Agm.out (fun _ hk=>hk.1)⟩,⟨Kd.rz nD⟩,⟨by (with_reducible repeat (first|apply Kd.iH|apply Kd.iI|apply Kd.jN));exact Kd.pI fC.out (fun _ hk=>⟨hk.1.1,⟨hk.2,⟨hk.1.2.1,hk.1.2.2.2⟩⟩⟩)⟩,⟨by (with_reducible repeat (first|apply Kd.iH|apply Kd.iI|apply Kd.jN));exact Kd.pI fD.out (fun _ hk=>⟨hk.1.1,⟨hk.2,⟨hk.1.2.1,hk.1.2.2.2⟩⟩⟩)⟩,⟨kz cF⟩,⟨bz HB⟩⟩
    rw [av LQ] at H
    cases H
   rw [av rH] at H
   have I0:decide (jE<(jy.length:Int))=false:=gN rH;clear rH;obtain ⟨uB,Jz⟩:∃ y_:List Int,y_=(([((((wrap64 (20+(bH.length:Int))) % 256) / 4)*16) % 256,dP,(dR / 256) % 256,(dR) % 256,(dX / 256) % 256,(dX) % 256,(dY / 256) % 256,(dY) % 256]:List Int)):=⟨_,rfl⟩
   replace H:(if Be.length+uB.length<140737488355328 then ((aY.f k2 (([(Be++uB),bH,cE]:List (List Int)))).bind fun Pg=>(some (Pg,0))) else (none))=some (r1,r2):=by first|(rw [Jz];with_reducible exact H)|(have kE:=(bD _ _).symm.trans H;rw [Jz];with_reducible exact kE)|(have kE:=(bD _ _).symm.trans H;with_reducible exact kE)|with_reducible exact H|(rw [Jz];exact H)|exact H
   have YA:=aa.mk Jz;clear Jz
   by_cases Nw:Be.length+uB.length<140737488355328
   ·rw [aq Nw] at H
    have Sp:=aa.mk Nw;clear Nw;obtain ⟨Sq,Sr⟩:∃ y_:List Int,y_=(Be++uB):=⟨_,rfl⟩
    rw [<- Sr] at H
    have Agn:=aa.mk Sr;clear Sr;obtain ⟨Ago,Ss⟩:∃ y_:List (List Int),y_=(([Sq,bH,cE]:List (List Int))):=⟨_,rfl⟩
    rw [<- Ss] at H
    have YB:=aa.mk Ss;clear Ss;replace H:=dc H;obtain ⟨Pg,Jh,H⟩:=H;replace H:(some (Pg,0))=some (r1,r2):=H;have A26:=aa.mk Jh;clear Jh;simp only [Option.some.injEq,Prod.mk.injEq] at H
    obtain ⟨rfl,rfl⟩:=H;have St:=ru cF.out;have Su:=ae cF.out
    go_wp2_with (first|((with_reducible refine aA (N:=100) rfl ?_);(try (refine eP (by rfl) ?_;dsimp only));refine Kd.qh (Kd.int .u8) _ 5 ?hg (N:=100) ?hd (xs:=([((((wrap64 (20+(bH.length:Int))) % 256) / 4)*16) % 256,dP,(dR / 256) % 256,(dR) % 256,(dX / 256) % 256,(dX) % 256,(dY / 256) % 256,(dY) % 256]:List Int)) (inner:=[.int .u8 (((((wrap64 (20+(bH.length:Int))) % 256) / 4)*16) % 256),.int .u8 dP,.int .u8 ((dR / 256) % 256),.int .u8 ((dR) % 256),.int .u8 ((dX / 256) % 256),.int .u8 ((dX) % 256),.int .u8 ((dY / 256) % 256),.int .u8 ((dY) % 256)]) (ok:=fun _=>True) (qW:=fun _=>True) ?hr ?hp (fun _ hk=>hk) trivial (Below.refl _ _) (Nat.le_refl _) (by simp) ?_;(case hd=>rfl);(case hg=>rfl);(case hr=>first|(go_simp;done)|(go_simp;simp only [IntKind.wrap_u8,IntKind.wrap_u16,IntKind.wrap_u32];done)|(go_simp;rfl));(case hp=>exact (cD.one (show Kd.M (Kd.int .u8) _ _ _ (((((wrap64 (20+(bH.length:Int))) % 256) / 4)*16) % 256) [.int .u8 (((((wrap64 (20+(bH.length:Int))) % 256) / 4)*16) % 256)] from rfl) (cD.one (show Kd.M (Kd.int .u8) _ _ _ dP [.int .u8 dP] from rfl) (cD.one (show Kd.M (Kd.int .u8) _ _ _ ((dR / 256) % 256) [.int .u8 ((dR / 256) % 256)] from rfl) (cD.one (show Kd.M (Kd.int .u8) _ _ _ ((dR) % 256) [.int .u8 ((dR) % 256)] from rfl) (cD.one (show Kd.M (Kd.int .u8) _ _ _ ((dX / 256) % 256) [.int .u8 ((dX / 256) % 256)] from rfl) (cD.one (show Kd.M (Kd.int .u8) _ _ _ ((dX) % 256) [.int .u8 ((dX) % 256)] from rfl) (cD.one (show Kd.M (Kd.int .u8) _ _ _ ((dY / 256) % 256) [.int .u8 ((dY / 256) % 256)] from rfl) (cD.one (show Kd.M (Kd.int .u8) _ _ _ ((dY) % 256) [.int .u8 ((dY) % 256)] from rfl) (cD.none _ _))))))))));intro AvU w28 z9 hb fT iN;clear fT iN;(first|rw [<- YA.out] at z9|(simp only [Int.reduceToNat] at z9;rw [<- YA.out] at z9));have aH:=aa.mk (Kd.mQ (Kd.rz yz) (Kd.j3 z9) hb);have aK:=aa.mk (Kd.fX (Kd.rz nD) hb);have bt:=aa.mk (Kd.mS (by (with_reducible repeat (first|apply Kd.iH|apply Kd.iI|apply Kd.jN));exact fC.out) (Kd.j3 z9) hb);have cC:=aa.mk (Kd.mS (by (with_reducible repeat (first|apply Kd.iH|apply Kd.iI|apply Kd.jN));exact fD.out) (Kd.j3 z9) hb);have uA:=aa.mk (Kd.bP (Kd.qZ (Kd.yX (M:=fun k_=>(w.heap.size<=k_)) z9 (af (bz HB)) (fun k_ h_=>h_)) (Kd.ox (Kd.rz yz))) (af (bz HB)));have yN:=aa.mk (bq (kz cF) hb);have BH:=aa.mk (au (bz HB) hb);clear yz;clear nD;clear fC;clear fD;clear cF;clear HB;have yz:=aH;have nD:=aK;have fC:=bt;have fD:=cC;have tM:=uA;have cF:=yN;have HB:=BH;clear aH aK bt cC uA yN BH;clear hb z9;obtain ⟨yA,yB,V5⟩:=Kd.dn tM.out;subst V5)|((with_reducible refine fB (b:= .append) (xs:= #[.tmp 69,.tmp 100]) rfl ?_);(try (refine eP (by rfl) ?_;dsimp only));at_builtin;refine Kd.gz (Kd.int .u8) (w0:=w) w.heap.size rfl (.tmp 69) (.tmp 100) 23 5 (.int .u8 0) 1 rfl Try.underlying23 fY rfl (by decide) (by omega) u4 Be uB _ _ _ (fun k_=>(w.heap.size<=k_) /\ some k_≠(.slice yA uB.length yB:Value).ownBlock) (fun _=>False) rfl rfl ?aO ?aR (fun _ _ h=>h) (fun _ h=>h.elim) ?aF ?aB ?aS ?aL ?_;(case aR=>repeat (first|exact (Kd.ay tM.out).2.2|(with_reducible refine Kd.fH ?_ _)|(with_reducible refine Kd.fz ?_ _)|(with_reducible refine Kd.gQ ?_)));(case aB=>exact bz HB);(case aF=>exact (fun k_ hk=>⟨(Nat.le_trans (af (bz HB)) hk),Kd.mG (Kd.ox (Kd.rz tM)) k_ hk⟩));(case aO=>exact (Kd.rz yz));(case aS=>exact (af (bz HB)));(case aL=>have:=Sp.out;omega);intro AvV Pj ho hb hg hat;rw [<- Agn.out] at ho;have aH:=aa.mk (Kd.uO (Kd.rz nD) (Kd.rO (Kd.rz yz)) (by decide) hg);have aK:=aa.mk (Kd.zN (ok:=(fun k_=>((o5 k_ \/ o7 k_) \/ w.heap.size<=k_) /\ some k_≠(.slice z6 jy.length yy:Value).ownBlock /\ some k_≠(.slice yA uB.length yB:Value).ownBlock /\ k_≠iJ)) (by (with_reducible repeat (first|apply Kd.iH|apply Kd.iI|apply Kd.jN));exact Kd.pI fC.out (fun _ hk=>⟨⟨hk.1.1,⟨hk.1.2.2.1,⟨hk.2,hk.1.2.2.2⟩⟩⟩,hk.1.2.1⟩)) hg hat);have bt:=aa.mk (Kd.zN (ok:=(fun k_=>((o5 k_ \/ o7 k_) \/ w.heap.size<=k_) /\ some k_≠(.slice z6 jy.length yy:Value).ownBlock /\ some k_≠(.slice yA uB.length yB:Value).ownBlock /\ k_≠iJ)) (by (with_reducible repeat (first|apply Kd.iH|apply Kd.iI|apply Kd.jN));exact Kd.pI fD.out (fun _ hk=>⟨⟨hk.1.1,⟨hk.1.2.2.1,⟨hk.2,hk.1.2.2.2⟩⟩⟩,hk.1.2.1⟩)) hg hat);have cC:=aa.mk (gW (kz cF) hg (Kd.nk yz.out cF.out (by decide)));have uA:=aa.mk (Kd.nS (ok:=(fun k_=>(w.heap.size<=k_))) (by (with_reducible repeat (first|apply Kd.fg|apply Kd.eV|apply Kd.fj));exact Kd.dA tM.out (fun _ hk=>⟨hk.1.1,hk.2⟩)) hg hat);have yN:=aa.mk (hb);have BH:=aa.mk (ho);clear nD;clear fC;clear fD;clear cF;clear tM;clear HB;clear yz;have nD:=aH;have fC:=aK;have fD:=bt;have cF:=cC;have tM:=uA;have HB:=yN;have Nx:=BH;clear aH aK bt cC uA yN BH;clear ho hb hg hat;have Akk:Pj.cell? ⟨iJ,0,none⟩=some (.int .u16 aU):=cz cF.out 0 rfl;have Akl:Pj.cell? ⟨iJ,1,none⟩=some (.int .u16 bh):=cz cF.out 1 rfl;have Akm:Pj.cell? ⟨iJ,2,none⟩=some (.int .u32 bn):=cz cF.out 2 rfl;have Akn:Pj.cell? ⟨iJ,3,none⟩=some (.int .u32 bu):=cz cF.out 3 rfl;have Ako:Pj.cell? ⟨iJ,4,none⟩=some (.int .u8 dP):=cz cF.out 4 rfl;have Akp:Pj.cell? ⟨iJ,5,none⟩=some (.int .u16 dR):=cz cF.out 5 rfl;have Akq:Pj.cell? ⟨iJ,6,none⟩=some (.int .u16 dX):=cz cF.out 6 rfl;have Akr:Pj.cell? ⟨iJ,7,none⟩=some (.int .u16 dY):=cz cF.out 7 rfl;have Aks:Pj.cell? ⟨iJ,8,none⟩=some (.slice jq bH.length jr):=cz cF.out 8 rfl;have Akt:Pj.cell? ⟨iJ,9,none⟩=some (.slice js cE.length ju):=cz cF.out 9 rfl;have Aku:=ae cF.out 0;have Akv:=ae cF.out 1;have Akw:=ae cF.out 2;have Akx:=ae cF.out 3;have Aky:=ae cF.out 4;have Akz:=ae cF.out 5;have AkA:=ae cF.out 6;have AkB:=ae cF.out 7;have AkC:=ae cF.out 8;have AkD:=ae cF.out 9;obtain ⟨Bf,Aa,E7⟩:=Kd.dn Nx.out;subst E7)|((with_reducible refine aA (N:=107) rfl ?_);(try (refine eP (by rfl) ?_;dsimp only));refine Kd.AeK (Kd.slice 5 (Kd.int .u8)) _ 23 ?hg (N':=107) ?hd (xs:=([Sq,bH,cE]:List (List Int))) (inner:=[.slice Bf Sq.length Aa,.slice jq bH.length jr,.slice js cE.length ju]) (ok:=(fun k_=>((o5 k_ \/ o7 k_) \/ w.heap.size<=k_) /\ some k_≠(.slice z6 jy.length yy:Value).ownBlock /\ some k_≠(.slice yA uB.length yB:Value).ownBlock /\ k_≠iJ)) (qW:=(fun k_=>((o5 k_ \/ o7 k_) \/ w.heap.size<=k_) /\ some k_≠(.slice z6 jy.length yy:Value).ownBlock /\ some k_≠(.slice yA uB.length yB:Value).ownBlock /\ k_≠iJ)) ?hr ?hp (fun _ hk=>hk) ((show ∀ k_,Pj.heap.size<=k_ ->(fun k_=>((o5 k_ \/ o7 k_) \/ w.heap.size<=k_) /\ some k_≠(.slice z6 jy.length yy:Value).ownBlock /\ some k_≠(.slice yA uB.length yB:Value).ownBlock /\ k_≠iJ) k_ from fun k_ hk=>⟨(.inr (Nat.le_trans (af (bz HB)) hk)),Kd.mG (Kd.ox (Kd.rz nD)) k_ hk,Kd.mG (Kd.ox (Kd.rz tM)) k_ hk,Kd.Aai (g:=iJ) (o:= .cells #[.int .u16 aU,.int .u16 bh,.int .u32 bn,.int .u32 bu,.int .u8 dP,.int .u16 dR,.int .u16 dX,.int .u16 dY,.slice jq bH.length jr,.slice js cE.length ju] 137 (0,0)) (kz cF) k_ hk⟩) _ (Nat.le_refl _)) (Below.refl _ _) (Nat.le_refl _) (by simp) ?_;(case hd=>rfl);(case hg=>rfl);(case hr=>first|(go_simp;done)|(go_simp;rfl));(case hp=>exact (cD.one (show Kd.FK (Kd.slice 5 (Kd.int .u8)) _ _ Sq [.slice Bf Sq.length Aa] from (Kd.wP (Kd.ay (Kd.dA (ok':=(fun k_=>((o5 k_ \/ o7 k_) \/ w.heap.size<=k_) /\ some k_≠(.slice z6 jy.length yy:Value).ownBlock /\ some k_≠(.slice yA uB.length yB:Value).ownBlock /\ k_≠iJ)) (Kd.mE (Kd.IB (Nx.out) (Kd.rO nD.out) (by decide)) cF.out (by decide)) (fun k_ hk=>⟨(.inr (hk.1.1.1)),⟨hk.1.2,⟨hk.1.1.2,hk.2⟩⟩⟩))).2.1 (Kd.R_F (Kd.dA (ok':=(fun k_=>((o5 k_ \/ o7 k_) \/ w.heap.size<=k_) /\ some k_≠(.slice z6 jy.length yy:Value).ownBlock /\ some k_≠(.slice yA uB.length yB:Value).ownBlock /\ k_≠iJ)) (Kd.mE (Kd.IB (Nx.out) (Kd.rO nD.out) (by decide)) cF.out (by decide)) (fun k_ hk=>⟨(.inr (hk.1.1.1)),⟨hk.1.2,⟨hk.1.1.2,hk.2⟩⟩⟩))))) (cD.one (show Kd.FK (Kd.slice 5 (Kd.int .u8)) _ _ bH [.slice jq bH.length jr] from (Kd.wP (Kd.IP (Kd.pI (ok':=(fun k_=>((o5 k_ \/ o7 k_) \/ w.heap.size<=k_) /\ some k_≠(.slice z6 jy.length yy:Value).ownBlock /\ some k_≠(.slice yA uB.length yB:Value).ownBlock /\ k_≠iJ)) (fC.out) (fun k_ hk=>⟨hk.1.1,⟨hk.1.2.1,⟨hk.1.2.2.1,hk.1.2.2.2⟩⟩⟩))).2.1 (Kd.V_F (Kd.pI (ok':=(fun k_=>((o5 k_ \/ o7 k_) \/ w.heap.size<=k_) /\ some k_≠(.slice z6 jy.length yy:Value).ownBlock /\ some k_≠(.slice yA uB.length yB:Value).ownBlock /\ k_≠iJ)) (fC.out) (fun k_ hk=>⟨hk.1.1,⟨hk.1.2.1,⟨hk.1.2.2.1,hk.1.2.2.2⟩⟩⟩))))) (cD.one (show Kd.FK (Kd.slice 5 (Kd.int .u8)) _ _ cE [.slice js cE.length ju] from (Kd.wP (Kd.IP (Kd.pI (ok':=(fun k_=>((o5 k_ \/ o7 k_) \/ w.heap.size<=k_) /\ some k_≠(.slice z6 jy.length yy:Value).ownBlock /\ some k_≠(.slice yA uB.length yB:Value).ownBlock /\ k_≠iJ)) (fD.out) (fun k_ hk=>⟨hk.1.1,⟨hk.1.2.1,⟨hk.1.2.2.1,hk.1.2.2.2⟩⟩⟩))).2.1 (Kd.V_F (Kd.pI (ok':=(fun k_=>((o5 k_ \/ o7 k_) \/ w.heap.size<=k_) /\ some k_≠(.slice z6 jy.length yy:Value).ownBlock /\ some k_≠(.slice yA uB.length yB:Value).ownBlock /\ k_≠iJ)) (fD.out) (fun k_ hk=>⟨hk.1.1,⟨hk.1.2.1,⟨hk.1.2.2.1,hk.1.2.2.2⟩⟩⟩))))) (cD.none _ _)))));intro AvW LR LS hb fT iN;clear fT iN;(first|rw [<- YB.out] at LS|(simp only [Int.reduceToNat] at LS;rw [<- YB.out] at LS));have aH:=aa.mk (Kd.fX (Kd.rz nD) hb);have aK:=aa.mk (Kd.mS (by (with_reducible repeat (first|apply Kd.iH|apply Kd.iI|apply Kd.jN));exact fC.out) (Kd.QV LS) hb);have bt:=aa.mk (Kd.mS (by (with_reducible repeat (first|apply Kd.iH|apply Kd.iI|apply Kd.jN));exact fD.out) (Kd.QV LS) hb);have cC:=aa.mk (Kd.fX (Kd.rz tM) hb);have uA:=aa.mk (Kd.Vw LS (af (bz HB)));have yN:=aa.mk (bq (kz cF) hb);have BH:=aa.mk (au (bz HB) hb);clear nD;clear fC;clear fD;clear tM;clear cF;clear HB;clear Nx;have nD:=aH;have fC:=aK;have fD:=bt;have tM:=cC;have FH:=uA;have cF:=yN;have HB:=BH;clear aH aK bt cC uA yN BH;clear hb LS;obtain ⟨AoN,AoO,AoP⟩:=Kd.Vz FH.out;subst AoP)|((with_reducible refine az (f:=127) rfl ?_);refine gL 108 Try.func127 #[.slice AoN Ago.length AoO] ?_;(with_reducible refine (aY.calls k2 _ _ Ago Pg _ ?aE ?aG A26.out).mono ?_);(case aE=>repeat (first|exact (Kd.IM FH.out).2.2|(with_reducible refine Kd.fH ?_ _)|(with_reducible refine Kd.fz ?_ _)|(with_reducible refine Kd.gQ ?_)));(case aG=>exact (Kd.IM FH.out).2.1);rintro e w37 ⟨AvX,rfl,gC,hb⟩;refine ⟨_,rfl, ?_⟩;have aH:=aa.mk (Kd.fX (Kd.rz nD) hb);have aK:=aa.mk (Kd.mS (by (with_reducible repeat (first|apply Kd.iH|apply Kd.iI|apply Kd.jN));exact fC.out) (Kd.j3 gC) hb);have bt:=aa.mk (Kd.mS (by (with_reducible repeat (first|apply Kd.iH|apply Kd.iI|apply Kd.jN));exact fD.out) (Kd.j3 gC) hb);have cC:=aa.mk (Kd.mQ (Kd.rz tM) (Kd.j3 gC) hb);have uA:=aa.mk (Kd.QW (by (with_reducible repeat (first|apply Kd.Vx|apply Kd.Vy|apply Kd.Aaq));exact FH.out) (Kd.j3 gC) hb);have yN:=aa.mk (Kd.bP (Kd.qZ (Kd.yX (M:=fun k_=>(w.heap.size<=k_)) gC (af (bz HB)) (fun k_ h_=>h_)) (Kd.ox (Kd.rz tM))) (af (bz HB)));have BH:=aa.mk (bq (kz cF) hb);have n7_:=aa.mk (au (bz HB) hb);clear nD;clear fC;clear fD;clear tM;clear FH;clear cF;clear HB;have nD:=aH;have fC:=aK;have fD:=bt;have tM:=cC;have FH:=uA;have Agq:=yN;have cF:=BH;have HB:=n7_;clear aH aK bt cC uA yN BH n7_;(try clear hb);(try clear hb2);(try clear hk);(try clear hi);(try clear gC)))
    go_ret2
    exact ⟨_,by first|rfl|(simp [aj,ak]<;>rfl)|(simp [*,aj,ak]<;>rfl),by (with_reducible repeat (first|apply Kd.fg|apply Kd.eV|apply Kd.fj));exact Kd.dA Agq.out (fun _ hk=>hk.1.1),bz HB⟩
   rw [av Nw] at H
   cases H
def nX.f (k:Nat) (a0:Int) (a1:Int) (ew:Int) (ez:Int) (ee:Int) (jg:Int) (jh:Int) (ji:Int) (kB:Int) (jj:Int) (iz:List Int) (iA:List Int):Option (Int×Bool):=(fe.f k ew ez ee jg jh ji kB jj iz iA).bind fun DI=>((j5.f k a0 a1 6 (DI.1.length:Int)).bind fun LU=>((gE.f k LU DI.1).bind fun LV=>((dU.f k LV).bind fun Sv=>(some (Sv,(DI.2==0))))))
theorem nX.calls (k:Nat) (a0:Int) (a1:Int) (ew:Int) (ez:Int) (ee:Int) (jg:Int) (jh:Int) (ji:Int) (kB:Int) (jj:Int) (nl:Option Addr) (nn:Nat) (iz:List Int) (nr:Option Addr) (nu:Nat) (iA:List Int) (r1:Int) (r2:Bool) (w:World) (xm:Kd.C (Kd.int .u8) w nl iz.length iz) (xo:iz.length<=nn) (xp:Kd.C (Kd.int .u8) w nr iA.length iA) (xq:iA.length<=nu) (h:nX.f k a0 a1 ew ez ee jg jh ji kB jj iz iA=some (r1,r2)):
  Calls Try.prog 126 #[.int .u32 a0,.int .u32 a1,.agg #[.int .u16 ew,.int .u16 ez,.int .u32 ee,.int .u32 jg,.int .u8 jh,.int .u16 ji,.int .u16 kB,.int .u16 jj,.slice nl iz.length nn,.slice nr iA.length nu]] w fun e w'=>e= .returned (.tuple #[.int .u16 r1,.bool r2]) /\ Below w.heap.size w w':=by
 have uC:=Try.underlying137;have yO:=aa.mk xm;have yP:=aa.mk xo;clear xm xo;have yQ:=aa.mk xp;have yR:=aa.mk xq;clear xp xq;have HB:=gI w;have H:((fe.f k ew ez ee jg jh ji kB jj iz iA).bind fun DI=>((j5.f k a0 a1 6 (DI.1.length:Int)).bind fun LU=>((gE.f k LU DI.1).bind fun LV=>((dU.f k LV).bind fun Sv=>(some (Sv,(DI.2==0)))))))=some (r1,r2):=h;clear h;replace H:=dc H;obtain ⟨⟨Sw,AoR⟩,qo,H⟩:=H
 (try dsimp -simprocs only at H)
 have A4:=aa.mk qo;clear qo;replace H:=dc H;obtain ⟨LU,Dw,H⟩:=H
 (try dsimp -simprocs only at H)
 have A5:=aa.mk Dw;clear Dw;replace H:=dc H;obtain ⟨LV,wD,H⟩:=H
 (try dsimp -simprocs only at H)
 have A6:=aa.mk wD;clear wD;replace H:=dc H;obtain ⟨Sv,BB,H⟩:=H
 (try dsimp -simprocs only at H)
 have A7:=aa.mk BB;clear BB;simp only [Option.some.injEq,Prod.mk.injEq] at H
 obtain ⟨rfl,rfl⟩:=H
 go_enter Try.func126,Try.ntmps126
 go_wp2_with (first|((with_reducible refine aA (N:=5) rfl ?_);refine aC ?hg (N:=5) ?hd (cs:= #[.int .u16 ew,.int .u16 ez,.int .u32 ee,.int .u32 jg,.int .u8 jh,.int .u16 ji,.int .u16 kB,.int .u16 jj,.slice nl iz.length nn,.slice nr iA.length nu]) (t:=137) ?hr ?_;(case hd=>rfl);(case hg=>rfl);(case hr=>first|(go_simp;done)|(go_simp;rfl));intro wF hg w8 bJ hb;have aH:=aa.mk (au (bz HB) hb);have aK:=aa.mk (bJ);have bt:=aa.mk ((by rw [hg];exact (af (bz HB)):w.heap.size<=wF));have cC:=aa.mk ((by rw [hg];exact (af (bz HB)):w.heap.size<=wF));clear HB;have HB:=aH;have mA:=aK;have AsH:=bt;have AsI:=cC;clear aH aK bt cC;clear hb bJ hg;have Dy:w8.cell? ⟨wF,0,none⟩=some (.int .u16 ew):=cz mA.out 0 rfl;have Dz:w8.cell? ⟨wF,1,none⟩=some (.int .u16 ez):=cz mA.out 1 rfl;have DA:w8.cell? ⟨wF,2,none⟩=some (.int .u32 ee):=cz mA.out 2 rfl;have DB:w8.cell? ⟨wF,3,none⟩=some (.int .u32 jg):=cz mA.out 3 rfl;have GV:w8.cell? ⟨wF,4,none⟩=some (.int .u8 jh):=cz mA.out 4 rfl;have AbS:w8.cell? ⟨wF,5,none⟩=some (.int .u16 ji):=cz mA.out 5 rfl;have AbT:w8.cell? ⟨wF,6,none⟩=some (.int .u16 kB):=cz mA.out 6 rfl;have AbU:w8.cell? ⟨wF,7,none⟩=some (.int .u16 jj):=cz mA.out 7 rfl;have AbV:w8.cell? ⟨wF,8,none⟩=some (.slice nl iz.length nn):=cz mA.out 8 rfl;have AbW:w8.cell? ⟨wF,9,none⟩=some (.slice nr iA.length nu):=cz mA.out 9 rfl;have DC:=ae mA.out 0;have DD:=ae mA.out 1;have DE:=ae mA.out 2;have DF:=ae mA.out 3;have GW:=ae mA.out 4;have AbX:=ae mA.out 5;have AbY:=ae mA.out 6;have AbZ:=ae mA.out 7;have Ab0:=ae mA.out 8;have Ab1:=ae mA.out 9)|((with_reducible refine az (f:=110) rfl ?_);refine gL 12 Try.func110 #[.agg #[.int .u16 ew,.int .u16 ez,.int .u32 ee,.int .u32 jg,.int .u8 jh,.int .u16 ji,.int .u16 kB,.int .u16 jj,.slice nl iz.length nn,.slice nr iA.length nu]] ?_;(with_reducible refine (fe.calls k ew ez ee jg jh ji kB jj (fun k_=>k_<w.heap.size) _ _ iz (fun k_=>k_<w.heap.size) _ _ iA Sw AoR _ ?aE ?aG A4.out).mono ?_);(case aE=>exact Kd.AeL yP.out (Kd.xO (Kd.C_F (Kd.IJ .u8) yO.out) (bz HB)));(case aG=>exact Kd.AeL yR.out (Kd.xO (Kd.C_F (Kd.IJ .u8) yQ.out) (bz HB)));rintro e ku ⟨AvY,rfl,gC,hb⟩;refine ⟨_,rfl, ?_⟩;have aH:=aa.mk (Kd.bP (Kd.dA (ok':=fun k_=>True) gC (fun _ mo=>trivial)) (af (bz HB)));have aK:=aa.mk (bq (kz mA) hb);have bt:=aa.mk (au (bz HB) hb);clear mA;clear HB;have FI:=aH;have mA:=aK;have HB:=bt;clear aH aK bt;(try clear hb);(try clear hb2);(try clear hk);(try clear hi);(try clear gC);obtain ⟨AbK,AbL,AbM⟩:=Kd.dn FI.out;subst AbM)|((with_reducible refine az (f:=121) rfl ?_);refine gL 19 Try.func121 #[.int .u32 a0,.int .u32 a1,.int .u8 6,.int .i64 (Sw.length:Int)] ?_;(with_reducible refine (j5.calls k a0 a1 6 (Sw.length:Int) LU _ A5.out).mono ?_);rintro e w' ⟨rfl,⟨nd,rfl⟩⟩;refine ⟨_,rfl, ?_⟩)|((with_reducible refine az (f:=116) rfl ?_);refine gL 21 Try.func116 #[.int .u32 LU,.slice AbK Sw.length AbL] ?_;(with_reducible refine (gE.calls k LU _ _ Sw LV _ ?aE ?aG A6.out).mono ?_);(case aE=>repeat (first|exact (Kd.ay FI.out).2.2|(with_reducible refine Kd.fH ?_ _)|(with_reducible refine Kd.fz ?_ _)|(with_reducible refine Kd.gQ ?_)));(case aG=>exact (Kd.ay FI.out).2.1);rintro e nP ⟨rfl,hb⟩;refine ⟨_,rfl, ?_⟩;have aH:=aa.mk (Kd.fX (Kd.rz FI) hb);have aK:=aa.mk (bq (kz mA) hb);have bt:=aa.mk (au (bz HB) hb);clear FI;clear mA;clear HB;have FI:=aH;have mA:=aK;have HB:=bt;clear aH aK bt;(try clear hb);(try clear hb2);(try clear hk);(try clear hi))|((with_reducible refine az (f:=115) rfl ?_);refine gL 22 Try.func115 #[.int .u32 LV] ?_;(with_reducible refine (dU.calls k LV Sv _ A7.out).mono ?_);rintro e w' ⟨rfl,⟨nd,rfl⟩⟩;refine ⟨_,rfl, ?_⟩))
 go_ret2
 exact ⟨by first|rfl|(simp [aj,ak]<;>rfl)|(simp [*,aj,ak]<;>rfl),bz HB⟩
def o8.f (k:Nat) (a0:Int) (a1:Int) (ew:Int) (ez:Int) (ee:Int) (jg:Int) (jh:Int) (ji:Int) (kB:Int) (jj:Int) (iz:List Int) (iA:List Int):Option (Bool):=(nX.f k a0 a1 ew ez ee jg jh ji kB jj iz iA).bind fun JA=>(if JA.2=true then (some (JA.1==65535)) else (some false))
theorem o8.calls (k:Nat) (a0:Int) (a1:Int) (ew:Int) (ez:Int) (ee:Int) (jg:Int) (jh:Int) (ji:Int) (kB:Int) (jj:Int) (nl:Option Addr) (nn:Nat) (iz:List Int) (nr:Option Addr) (nu:Nat) (iA:List Int) (r:Bool) (w:World) (xm:Kd.C (Kd.int .u8) w nl iz.length iz) (xo:iz.length<=nn) (xp:Kd.C (Kd.int .u8) w nr iA.length iA) (xq:iA.length<=nu) (h:o8.f k a0 a1 ew ez ee jg jh ji kB jj iz iA=some r):
  Calls Try.prog 159 #[.int .u32 a0,.int .u32 a1,.agg #[.int .u16 ew,.int .u16 ez,.int .u32 ee,.int .u32 jg,.int .u8 jh,.int .u16 ji,.int .u16 kB,.int .u16 jj,.slice nl iz.length nn,.slice nr iA.length nu]] w fun e w'=>e= .returned (.bool r) /\ Below w.heap.size w w':=by
 have uC:=Try.underlying137;have yO:=aa.mk xm;have yP:=aa.mk xo;clear xm xo;have yQ:=aa.mk xp;have yR:=aa.mk xq;clear xp xq;have HB:=gI w;have H:((nX.f k a0 a1 ew ez ee jg jh ji kB jj iz iA).bind fun JA=>(if JA.2=true then (some (JA.1==65535)) else (some false)))=some r:=h;clear h;replace H:=dc H;obtain ⟨⟨Ab7,AoS⟩,qo,H⟩:=H
 (try dsimp -simprocs only at H)
 have A4:=aa.mk qo;clear qo
 by_cases c5:AoS=true
 ·subst c5
  have H1:(some (Ab7==65535))=some r:=by rw [aq rfl] at H;exact H
  clear H;have H:=H1;clear H1;obtain rfl:=cN H
  go_enter Try.func159,Try.ntmps159
  go_wp2_with (first|((with_reducible refine aA (N:=5) rfl ?_);refine aC ?hg (N:=5) ?hd (cs:= #[.int .u16 ew,.int .u16 ez,.int .u32 ee,.int .u32 jg,.int .u8 jh,.int .u16 ji,.int .u16 kB,.int .u16 jj,.slice nl iz.length nn,.slice nr iA.length nu]) (t:=137) ?hr ?_;(case hd=>rfl);(case hg=>rfl);(case hr=>first|(go_simp;done)|(go_simp;rfl));intro mW hg w6 bJ hb;have aH:=aa.mk (au (bz HB) hb);have aK:=aa.mk (bJ);have bt:=aa.mk ((by rw [hg];exact (af (bz HB)):w.heap.size<=mW));have cC:=aa.mk ((by rw [hg];exact (af (bz HB)):w.heap.size<=mW));clear HB;have HB:=aH;have ik:=aK;have Agr:=bt;have Ags:=cC;clear aH aK bt cC;clear hb bJ hg;have uZ:w6.cell? ⟨mW,0,none⟩=some (.int .u16 ew):=cz ik.out 0 rfl;have vk:w6.cell? ⟨mW,1,none⟩=some (.int .u16 ez):=cz ik.out 1 rfl;have vn:w6.cell? ⟨mW,2,none⟩=some (.int .u32 ee):=cz ik.out 2 rfl;have vp:w6.cell? ⟨mW,3,none⟩=some (.int .u32 jg):=cz ik.out 3 rfl;have wX:w6.cell? ⟨mW,4,none⟩=some (.int .u8 jh):=cz ik.out 4 rfl;have R5:w6.cell? ⟨mW,5,none⟩=some (.int .u16 ji):=cz ik.out 5 rfl;have Sa:w6.cell? ⟨mW,6,none⟩=some (.int .u16 kB):=cz ik.out 6 rfl;have Sb:w6.cell? ⟨mW,7,none⟩=some (.int .u16 jj):=cz ik.out 7 rfl;have Sc:w6.cell? ⟨mW,8,none⟩=some (.slice nl iz.length nn):=cz ik.out 8 rfl;have Sd:w6.cell? ⟨mW,9,none⟩=some (.slice nr iA.length nu):=cz ik.out 9 rfl;have vq:=ae ik.out 0;have vu:=ae ik.out 1;have vv:=ae ik.out 2;have vw:=ae ik.out 3;have wY:=ae ik.out 4;have Se:=ae ik.out 5;have Sf:=ae ik.out 6;have Sg:=ae ik.out 7;have Si:=ae ik.out 8;have Sj:=ae ik.out 9)|((with_reducible refine az (f:=126) rfl ?_);refine gL 13 Try.func126 #[.int .u32 a0,.int .u32 a1,.agg #[.int .u16 ew,.int .u16 ez,.int .u32 ee,.int .u32 jg,.int .u8 jh,.int .u16 ji,.int .u16 kB,.int .u16 jj,.slice nl iz.length nn,.slice nr iA.length nu]] ?_;(with_reducible refine (nX.calls k a0 a1 ew ez ee jg jh ji kB jj _ _ iz _ _ iA Ab7 true _ ?aE ?aG ?uD ?uE A4.out).mono ?_);(case aE=>exact Kd.aW yO.out (bz HB));(case aG=>exact yP.out);(case uD=>exact Kd.aW yQ.out (bz HB));(case uE=>exact yR.out);rintro e w8 ⟨rfl,hb⟩;refine ⟨_,rfl, ?_⟩;have aH:=aa.mk (bq (kz ik) hb);have aK:=aa.mk (au (bz HB) hb);clear ik;clear HB;have ik:=aH;have HB:=aK;clear aH aK;(try clear hb);(try clear hb2);(try clear hk);(try clear hi)))
  go_ret
  exact ⟨by first|rfl|(simp [aj,ak]<;>rfl)|(simp [*,aj,ak]<;>rfl),bz HB⟩
 replace c5:=zE c5
 subst c5;have H1:(some false)=some r:=by rw [av (show ¬ (false=true) by decide)] at H;exact H
 clear H;have H:=H1;clear H1;obtain rfl:=cN H
 go_enter Try.func159,Try.ntmps159
 go_wp2_with (first|((with_reducible refine aA (N:=5) rfl ?_);refine aC ?hg (N:=5) ?hd (cs:= #[.int .u16 ew,.int .u16 ez,.int .u32 ee,.int .u32 jg,.int .u8 jh,.int .u16 ji,.int .u16 kB,.int .u16 jj,.slice nl iz.length nn,.slice nr iA.length nu]) (t:=137) ?hr ?_;(case hd=>rfl);(case hg=>rfl);(case hr=>first|(go_simp;done)|(go_simp;rfl));intro mW hg w9 bJ hb;have aH:=aa.mk (au (bz HB) hb);have aK:=aa.mk (bJ);have bt:=aa.mk ((by rw [hg];exact (af (bz HB)):w.heap.size<=mW));have cC:=aa.mk ((by rw [hg];exact (af (bz HB)):w.heap.size<=mW));clear HB;have HB:=aH;have ik:=aK;have Agr:=bt;have Ags:=cC;clear aH aK bt cC;clear hb bJ hg;have tB:w9.cell? ⟨mW,0,none⟩=some (.int .u16 ew):=cz ik.out 0 rfl;have tC:w9.cell? ⟨mW,1,none⟩=some (.int .u16 ez):=cz ik.out 1 rfl;have tD:w9.cell? ⟨mW,2,none⟩=some (.int .u32 ee):=cz ik.out 2 rfl;have tE:w9.cell? ⟨mW,3,none⟩=some (.int .u32 jg):=cz ik.out 3 rfl;have z4:w9.cell? ⟨mW,4,none⟩=some (.int .u8 jh):=cz ik.out 4 rfl;have CB:w9.cell? ⟨mW,5,none⟩=some (.int .u16 ji):=cz ik.out 5 rfl;have CC:w9.cell? ⟨mW,6,none⟩=some (.int .u16 kB):=cz ik.out 6 rfl;have CD:w9.cell? ⟨mW,7,none⟩=some (.int .u16 jj):=cz ik.out 7 rfl;have CE:w9.cell? ⟨mW,8,none⟩=some (.slice nl iz.length nn):=cz ik.out 8 rfl;have CF:w9.cell? ⟨mW,9,none⟩=some (.slice nr iA.length nu):=cz ik.out 9 rfl;have tF:=ae ik.out 0;have tG:=ae ik.out 1;have tH:=ae ik.out 2;have tI:=ae ik.out 3;have z5:=ae ik.out 4;have CG:=ae ik.out 5;have CI:=ae ik.out 6;have CJ:=ae ik.out 7;have CK:=ae ik.out 8;have CL:=ae ik.out 9)|((with_reducible refine az (f:=126) rfl ?_);refine gL 13 Try.func126 #[.int .u32 a0,.int .u32 a1,.agg #[.int .u16 ew,.int .u16 ez,.int .u32 ee,.int .u32 jg,.int .u8 jh,.int .u16 ji,.int .u16 kB,.int .u16 jj,.slice nl iz.length nn,.slice nr iA.length nu]] ?_;(with_reducible refine (nX.calls k a0 a1 ew ez ee jg jh ji kB jj _ _ iz _ _ iA Ab7 false _ ?aE ?aG ?uD ?uE A4.out).mono ?_);(case aE=>exact Kd.aW yO.out (bz HB));(case aG=>exact yP.out);(case uD=>exact Kd.aW yQ.out (bz HB));(case uE=>exact yR.out);rintro e sn ⟨rfl,hb⟩;refine ⟨_,rfl, ?_⟩;have aH:=aa.mk (bq (kz ik) hb);have aK:=aa.mk (au (bz HB) hb);clear ik;clear HB;have ik:=aH;have HB:=aK;clear aH aK;(try clear hb);(try clear hb2);(try clear hk);(try clear hi)))
 go_ret
 exact ⟨by first|rfl|(simp [aj,ak]<;>rfl)|(simp [*,aj,ak]<;>rfl),bz HB⟩
attribute [local go_sem] dI dJ eI eJ cO cP dK dL
def kI.f (k:Nat) (aU:Int) (bh:Int) (bn:Int) (bu:Int) (dP:Int) (dR:Int) (dX:Int) (dY:Int) (bH:List Int) (cE:List Int) (yp:Int) (yq:Int) (yt:Int) (yu:Int) (yw:Int) (yx:Int) (rP:Int) (rQ:Int) (rC:List Int) (rD:List Int):Option (Bool):=(o8.f k rP rQ aU bh bn bu dP dR dX dY bH cE).bind fun Pk=>(some Pk)
theorem kI.calls (k:Nat) (aU:Int) (bh:Int) (bn:Int) (bu:Int) (dP:Int) (dR:Int) (dX:Int) (dY:Int) (jq:Option Addr) (jr:Nat) (bH:List Int) (js:Option Addr) (ju:Nat) (cE:List Int) (yp:Int) (yq:Int) (yt:Int) (yu:Int) (yw:Int) (yx:Int) (rP:Int) (rQ:Int) (AZ:Option Addr) (Ba:Nat) (rC:List Int) (Bb:Option Addr) (Bc:Nat) (rD:List Int) (r:Bool) (w:World) (tN:Kd.C (Kd.int .u8) w jq bH.length bH) (tO:bH.length<=jr) (tP:Kd.C (Kd.int .u8) w js cE.length cE) (tQ:cE.length<=ju) (BC:Kd.C (Kd.int .u8) w AZ rC.length rC) (BD:rC.length<=Ba) (BF:Kd.C (Kd.int .u8) w Bb rD.length rD) (BG:rD.length<=Bc) (h:kI.f k aU bh bn bu dP dR dX dY bH cE yp yq yt yu yw yx rP rQ rC rD=some r):
  Calls Try.prog 158 #[.agg #[.int .u16 aU,.int .u16 bh,.int .u32 bn,.int .u32 bu,.int .u8 dP,.int .u16 dR,.int .u16 dX,.int .u16 dY,.slice jq bH.length jr,.slice js cE.length ju],.agg #[.int .u8 yp,.int .u8 yq,.int .u8 yt,.int .u16 yu,.int .u8 yw,.int .u16 yx,.int .u32 rP,.int .u32 rQ,.slice AZ rC.length Ba,.slice Bb rD.length Bc]] w fun e w'=>e= .returned (.bool r) /\ Below w.heap.size w w':=by
 have JB:=Try.underlying181;have iW:=Try.underlying73;have uC:=Try.underlying137;have BI:=aa.mk tN;have JC:=aa.mk tO;clear tN tO;have BJ:=aa.mk tP;have JD:=aa.mk tQ;clear tP tQ;have Yn:=aa.mk BC;have Yo:=aa.mk BD;clear BC BD;have Yp:=aa.mk BF;have Yq:=aa.mk BG;clear BF BG;have HB:=gI w;have H:((o8.f k rP rQ aU bh bn bu dP dR dX dY bH cE).bind fun Pk=>(some Pk))=some r:=h;clear h;replace H:=dc H;obtain ⟨Pk,wK,H⟩:=H;replace H:(some Pk)=some r:=H;have A3:=aa.mk wK;clear wK;obtain rfl:=cN H
 go_enter Try.func158,Try.ntmps158
 go_wp2_with (first|((with_reducible refine aA (N:=2) rfl ?_);refine aC ?hg (N:=2) ?hd (cs:= #[.int .u16 aU,.int .u16 bh,.int .u32 bn,.int .u32 bu,.int .u8 dP,.int .u16 dR,.int .u16 dX,.int .u16 dY,.slice jq bH.length jr,.slice js cE.length ju]) (t:=181) ?hr ?_;(case hd=>rfl);(case hg=>rfl);(case hr=>first|(go_simp;done)|(go_simp;rfl));intro rK hg w4 bJ hb;have aH:=aa.mk (au (bz HB) hb);have aK:=aa.mk (bJ);have bt:=aa.mk ((by rw [hg];exact (af (bz HB)):w.heap.size<=rK));have cC:=aa.mk ((by rw [hg];exact (af (bz HB)):w.heap.size<=rK));clear HB;have HB:=aH;have lU:=aK;have AsJ:=bt;have AsK:=cC;clear aH aK bt cC;clear hb bJ hg)|((with_reducible refine aA (N:=3) rfl ?_);refine aC ?hg (N:=3) ?hd (cs:= #[.int .u8 yp,.int .u8 yq,.int .u8 yt,.int .u16 yu,.int .u8 yw,.int .u16 yx,.int .u32 rP,.int .u32 rQ,.slice AZ rC.length Ba,.slice Bb rD.length Bc]) (t:=73) ?hr ?_;(case hd=>rfl);(case hg=>rfl);(case hr=>first|(go_simp;done)|(go_simp;rfl));intro tR hg w5 bJ hb;have aH:=aa.mk (bq (kz lU) hb);have aK:=aa.mk (au (bz HB) hb);have bt:=aa.mk (bJ);have cC:=aa.mk ((by rw [hg];exact (af (bz HB)):w.heap.size<=tR));have uA:=aa.mk ((by rw [hg];exact (af (bz HB)):w.heap.size<=tR));have yN:=aa.mk ((by rw [hg];exact Nat.ne_of_lt (lZ (g:=rK) (o:= .cells #[.int .u16 aU,.int .u16 bh,.int .u32 bn,.int .u32 bu,.int .u8 dP,.int .u16 dR,.int .u16 dX,.int .u16 dY,.slice jq bH.length jr,.slice js cE.length ju] 181 (0,0)) (kz lU)):rK≠tR));have BH:=aa.mk ((by rw [hg];exact Nat.ne_of_gt (lZ (g:=rK) (o:= .cells #[.int .u16 aU,.int .u16 bh,.int .u32 bn,.int .u32 bu,.int .u8 dP,.int .u16 dR,.int .u16 dX,.int .u16 dY,.slice jq bH.length jr,.slice js cE.length ju] 181 (0,0)) (kz lU)):tR≠rK));clear lU;clear HB;have lU:=aH;have HB:=aK;have nE:=bt;have AsL:=cC;have AsM:=uA;have Pm:=yN;have Pn:=BH;clear aH aK bt cC uA yN BH;clear hb bJ hg;have Agc:=Pn.out;have Agd:=Pm.out;have uZ:w5.cell? ⟨tR,0,none⟩=some (.int .u8 yp):=cz nE.out 0 rfl;have vk:w5.cell? ⟨tR,1,none⟩=some (.int .u8 yq):=cz nE.out 1 rfl;have vn:w5.cell? ⟨tR,2,none⟩=some (.int .u8 yt):=cz nE.out 2 rfl;have vp:w5.cell? ⟨tR,3,none⟩=some (.int .u16 yu):=cz nE.out 3 rfl;have wX:w5.cell? ⟨tR,4,none⟩=some (.int .u8 yw):=cz nE.out 4 rfl;have R5:w5.cell? ⟨tR,5,none⟩=some (.int .u16 yx):=cz nE.out 5 rfl;have Sa:w5.cell? ⟨tR,6,none⟩=some (.int .u32 rP):=cz nE.out 6 rfl;have Sb:w5.cell? ⟨tR,7,none⟩=some (.int .u32 rQ):=cz nE.out 7 rfl;have Sc:w5.cell? ⟨tR,8,none⟩=some (.slice AZ rC.length Ba):=cz nE.out 8 rfl;have Sd:w5.cell? ⟨tR,9,none⟩=some (.slice Bb rD.length Bc):=cz nE.out 9 rfl;have vq:=ae nE.out 0;have vu:=ae nE.out 1;have vv:=ae nE.out 2;have vw:=ae nE.out 3;have wY:=ae nE.out 4;have Se:=ae nE.out 5;have Sf:=ae nE.out 6;have Sg:=ae nE.out 7;have Si:=ae nE.out 8;have Sj:=ae nE.out 9;have LF:w5.cell? ⟨rK,0,none⟩=some (.int .u16 aU):=cz lU.out 0 rfl;have LG:w5.cell? ⟨rK,1,none⟩=some (.int .u16 bh):=cz lU.out 1 rfl;have LH:w5.cell? ⟨rK,2,none⟩=some (.int .u32 bn):=cz lU.out 2 rfl;have LI:w5.cell? ⟨rK,3,none⟩=some (.int .u32 bu):=cz lU.out 3 rfl;have Ab8:w5.cell? ⟨rK,4,none⟩=some (.int .u8 dP):=cz lU.out 4 rfl;have Ab9:w5.cell? ⟨rK,5,none⟩=some (.int .u16 dR):=cz lU.out 5 rfl;have Aca:w5.cell? ⟨rK,6,none⟩=some (.int .u16 dX):=cz lU.out 6 rfl;have Acb:w5.cell? ⟨rK,7,none⟩=some (.int .u16 dY):=cz lU.out 7 rfl;have Acd:w5.cell? ⟨rK,8,none⟩=some (.slice jq bH.length jr):=cz lU.out 8 rfl;have Ace:w5.cell? ⟨rK,9,none⟩=some (.slice js cE.length ju):=cz lU.out 9 rfl;have LJ:=ae lU.out 0;have LL:=ae lU.out 1;have LM:=ae lU.out 2;have LN:=ae lU.out 3;have Acf:=ae lU.out 4;have Acg:=ae lU.out 5;have Ach:=ae lU.out 6;have Aci:=ae lU.out 7;have Acj:=ae lU.out 8;have Ack:=ae lU.out 9)|((with_reducible refine az (f:=159) rfl ?_);refine gL 11 Try.func159 #[.int .u32 rP,.int .u32 rQ,.agg #[.int .u16 aU,.int .u16 bh,.int .u32 bn,.int .u32 bu,.int .u8 dP,.int .u16 dR,.int .u16 dX,.int .u16 dY,.slice jq bH.length jr,.slice js cE.length ju]] ?_;(with_reducible refine (o8.calls k rP rQ aU bh bn bu dP dR dX dY _ _ bH _ _ cE Pk _ ?aE ?aG ?uD ?uE A3.out).mono ?_);(case aE=>exact Kd.aW BI.out (bz HB));(case aG=>exact JC.out);(case uD=>exact Kd.aW BJ.out (bz HB));(case uE=>exact JD.out);rintro e w9 ⟨rfl,hb⟩;refine ⟨_,rfl, ?_⟩;have aH:=aa.mk (bq (kz lU) hb);have aK:=aa.mk (bq (kz nE) hb);have bt:=aa.mk (au (bz HB) hb);clear lU;clear nE;clear HB;have lU:=aH;have nE:=aK;have HB:=bt;clear aH aK bt;(try clear hb);(try clear hb2);(try clear hk);(try clear hi)))
 go_ret
 exact ⟨by first|rfl|(simp [aj,ak]<;>rfl)|(simp [*,aj,ak]<;>rfl),bz HB⟩
attribute [local go_sem] dI dJ eI eJ cO cP dK dL
def iE.f (aU:Int) (bh:Int) (bn:Int) (bu:Int) (cn:List Int):Option (List Int×Int):=if (wrap64 (8+(cn.length:Int)))>65515 then (some (([]:List Int),23)) else ((some (([aU,bh,(bn / 256) % 256,(bn) % 256,(bu / 16777216) % 256,(bu / 65536) % 256,(bu / 256) % 256,(bu) % 256]:List Int):List Int)).bind fun DJ=>(if DJ.length+cn.length<140737488355328 then (some ((DJ++cn),0)) else (none)))
theorem iE.calls (aU:Int) (bh:Int) (bn:Int) (bu:Int) (fI:Option Addr) (fJ:Nat) (cn:List Int) (r1:List Int) (r2:Int) (w:World) (jP:Kd.C (Kd.int .u8) w fI cn.length cn) (jQ:cn.length<=fJ) (h:iE.f aU bh bn bu cn=some (r1,r2)):
  Calls Try.prog 112 #[.agg #[.int .u8 aU,.int .u8 bh,.int .u16 bn,.int .u32 bu,.slice fI cn.length fJ]] w fun e w'=>∃ oW:Value,e= .returned (.tuple #[oW,.int .i64 r2]) /\ Kd.R (Kd.int .u8) 5 w' w.heap.size (fun _=>True) oW r1 /\ Below w.heap.size w w':=by
 have oA:=Try.underlying101;have oq:=aa.mk jP;have oY:=aa.mk jQ;clear jP jQ;have HB:=gI w;have H:(if (wrap64 (8+(cn.length:Int)))>65515 then (some (([]:List Int),23)) else ((some (([aU,bh,(bn / 256) % 256,(bn) % 256,(bu / 16777216) % 256,(bu / 65536) % 256,(bu / 256) % 256,(bu) % 256]:List Int):List Int)).bind fun DJ=>(if DJ.length+cn.length<140737488355328 then (some ((DJ++cn),0)) else (none))))=some (r1,r2):=h;clear h
 by_cases c2:(wrap64 (8+(cn.length:Int)))>65515
 ·rw [aq c2] at H
  have j4:decide (65515<(wrap64 (8+(cn.length:Int))))=true:=bN c2;clear c2;simp only [Option.some.injEq,Prod.mk.injEq] at H
  obtain ⟨rfl,rfl⟩:=H
  go_enter Try.func112,Try.ntmps112
  go_wp2_with (first|((with_reducible refine aA (N:=1) rfl ?_);refine aC ?hg (N:=1) ?hd (cs:= #[.int .u8 aU,.int .u8 bh,.int .u16 bn,.int .u32 bu,.slice fI cn.length fJ]) (t:=101) ?hr ?_;(case hd=>rfl);(case hg=>rfl);(case hr=>first|(go_simp;done)|(go_simp;rfl));intro o9 hg w3 bJ hb;have aH:=aa.mk (au (bz HB) hb);have aK:=aa.mk (bJ);have bt:=aa.mk ((by rw [hg];exact (af (bz HB)):w.heap.size<=o9));have cC:=aa.mk ((by rw [hg];exact (af (bz HB)):w.heap.size<=o9));clear HB;have HB:=aH;have jf:=aK;have Agt:=bt;have Agu:=cC;clear aH aK bt cC;clear hb bJ hg;have pK:w3.cell? ⟨o9,0,none⟩=some (.int .u8 aU):=cz jf.out 0 rfl;have pL:w3.cell? ⟨o9,1,none⟩=some (.int .u8 bh):=cz jf.out 1 rfl;have pM:w3.cell? ⟨o9,2,none⟩=some (.int .u16 bn):=cz jf.out 2 rfl;have pN:w3.cell? ⟨o9,3,none⟩=some (.int .u32 bu):=cz jf.out 3 rfl;have uj:w3.cell? ⟨o9,4,none⟩=some (.slice fI cn.length fJ):=cz jf.out 4 rfl;have pO:=ae jf.out 0;have pP:=ae jf.out 1;have pQ:=ae jf.out 2;have pR:=ae jf.out 3;have uk:=ae jf.out 4))
  go_ret2
  exact ⟨_,by first|rfl|(simp [aj,ak]<;>rfl)|(simp [*,aj,ak]<;>rfl),by first|exact Kd.bX _ _ _ _ _|exact Kd.jn _ _ _ _ _|exact Kd.jo _ _ _ _ _|exact Kd.jl _ _ _ _ _|exact Kd.jm _ _ _ _ _,bz HB⟩
 rw [av c2] at H
 have j4:decide (65515<(wrap64 (8+(cn.length:Int))))=false:=gN c2;clear c2;obtain ⟨DJ,JE⟩:∃ y_:List Int,y_=(([aU,bh,(bn / 256) % 256,(bn) % 256,(bu / 16777216) % 256,(bu / 65536) % 256,(bu / 256) % 256,(bu) % 256]:List Int)):=⟨_,rfl⟩
 replace H:(if DJ.length+cn.length<140737488355328 then (some ((DJ++cn),0)) else (none))=some (r1,r2):=by first|(rw [JE];with_reducible exact H)|(have kE:=(bD _ _).symm.trans H;rw [JE];with_reducible exact kE)|(have kE:=(bD _ _).symm.trans H;with_reducible exact kE)|with_reducible exact H|(rw [JE];exact H)|exact H
 have YC:=aa.mk JE;clear JE
 by_cases c5:DJ.length+cn.length<140737488355328
 ·rw [aq c5] at H
  have AbJ:=aa.mk c5;clear c5;obtain ⟨AoT,JF⟩:∃ y_:List Int,y_=(DJ++cn):=⟨_,rfl⟩
  replace H:(some (AoT,0))=some (r1,r2):=by first|(rw [JF];with_reducible exact H)|(have kE:=(bD _ _).symm.trans H;rw [JF];with_reducible exact kE)|(have kE:=(bD _ _).symm.trans H;with_reducible exact kE)|with_reducible exact H|(rw [JF];exact H)|exact H
  have Agv:=aa.mk JF;clear JF;simp only [Option.some.injEq,Prod.mk.injEq] at H
  obtain ⟨rfl,rfl⟩:=H
  go_enter Try.func112,Try.ntmps112
  go_wp2_with (first|((with_reducible refine aA (N:=1) rfl ?_);refine aC ?hg (N:=1) ?hd (cs:= #[.int .u8 aU,.int .u8 bh,.int .u16 bn,.int .u32 bu,.slice fI cn.length fJ]) (t:=101) ?hr ?_;(case hd=>rfl);(case hg=>rfl);(case hr=>first|(go_simp;done)|(go_simp;rfl));intro o9 hg w6 bJ hb;have aH:=aa.mk (au (bz HB) hb);have aK:=aa.mk (bJ);have bt:=aa.mk ((by rw [hg];exact (af (bz HB)):w.heap.size<=o9));have cC:=aa.mk ((by rw [hg];exact (af (bz HB)):w.heap.size<=o9));clear HB;have HB:=aH;have jf:=aK;have Agt:=bt;have Agu:=cC;clear aH aK bt cC;clear hb bJ hg;have uZ:w6.cell? ⟨o9,0,none⟩=some (.int .u8 aU):=cz jf.out 0 rfl;have vk:w6.cell? ⟨o9,1,none⟩=some (.int .u8 bh):=cz jf.out 1 rfl;have vn:w6.cell? ⟨o9,2,none⟩=some (.int .u16 bn):=cz jf.out 2 rfl;have vp:w6.cell? ⟨o9,3,none⟩=some (.int .u32 bu):=cz jf.out 3 rfl;have wX:w6.cell? ⟨o9,4,none⟩=some (.slice fI cn.length fJ):=cz jf.out 4 rfl;have vq:=ae jf.out 0;have vu:=ae jf.out 1;have vv:=ae jf.out 2;have vw:=ae jf.out 3;have wY:=ae jf.out 4)|((with_reducible refine aA (N:=35) rfl ?_);refine Kd.qh (Kd.int .u8) _ 5 ?hg (N:=35) ?hd (xs:=([aU,bh,(bn / 256) % 256,(bn) % 256,(bu / 16777216) % 256,(bu / 65536) % 256,(bu / 256) % 256,(bu) % 256]:List Int)) (inner:=[.int .u8 aU,.int .u8 bh,.int .u8 ((bn / 256) % 256),.int .u8 ((bn) % 256),.int .u8 ((bu / 16777216) % 256),.int .u8 ((bu / 65536) % 256),.int .u8 ((bu / 256) % 256),.int .u8 ((bu) % 256)]) (ok:=fun _=>True) (qW:=fun _=>True) ?hr ?hp (fun _ hk=>hk) trivial (Below.refl _ _) (Nat.le_refl _) (by simp) ?_;(case hd=>rfl);(case hg=>rfl);(case hr=>first|(go_simp;done)|(go_simp;simp only [IntKind.wrap_u8,IntKind.wrap_u16,IntKind.wrap_u32];done)|(go_simp;rfl));(case hp=>exact (cD.one (show Kd.M (Kd.int .u8) _ _ _ aU [.int .u8 aU] from rfl) (cD.one (show Kd.M (Kd.int .u8) _ _ _ bh [.int .u8 bh] from rfl) (cD.one (show Kd.M (Kd.int .u8) _ _ _ ((bn / 256) % 256) [.int .u8 ((bn / 256) % 256)] from rfl) (cD.one (show Kd.M (Kd.int .u8) _ _ _ ((bn) % 256) [.int .u8 ((bn) % 256)] from rfl) (cD.one (show Kd.M (Kd.int .u8) _ _ _ ((bu / 16777216) % 256) [.int .u8 ((bu / 16777216) % 256)] from rfl) (cD.one (show Kd.M (Kd.int .u8) _ _ _ ((bu / 65536) % 256) [.int .u8 ((bu / 65536) % 256)] from rfl) (cD.one (show Kd.M (Kd.int .u8) _ _ _ ((bu / 256) % 256) [.int .u8 ((bu / 256) % 256)] from rfl) (cD.one (show Kd.M (Kd.int .u8) _ _ _ ((bu) % 256) [.int .u8 ((bu) % 256)] from rfl) (cD.none _ _))))))))));intro AoU w8 ym hb fT iN;clear fT iN;(first|rw [<- YC.out] at ym|(simp only [Int.reduceToNat] at ym;rw [<- YC.out] at ym));have aH:=aa.mk (Kd.bP ym (af (bz HB)));have aK:=aa.mk (bq (kz jf) hb);have bt:=aa.mk (au (bz HB) hb);clear jf;clear HB;have Sy:=aH;have jf:=aK;have HB:=bt;clear aH aK bt;clear hb ym;have tB:w8.cell? ⟨o9,0,none⟩=some (.int .u8 aU):=cz jf.out 0 rfl;have tC:w8.cell? ⟨o9,1,none⟩=some (.int .u8 bh):=cz jf.out 1 rfl;have tD:w8.cell? ⟨o9,2,none⟩=some (.int .u16 bn):=cz jf.out 2 rfl;have tE:w8.cell? ⟨o9,3,none⟩=some (.int .u32 bu):=cz jf.out 3 rfl;have z4:w8.cell? ⟨o9,4,none⟩=some (.slice fI cn.length fJ):=cz jf.out 4 rfl;have tF:=ae jf.out 0;have tG:=ae jf.out 1;have tH:=ae jf.out 2;have tI:=ae jf.out 3;have z5:=ae jf.out 4)|((with_reducible refine fB (b:= .append) (xs:= #[.tmp 35,.tmp 37]) rfl ?_);at_builtin;refine Kd.gz (Kd.int .u8) (w0:=w) w.heap.size rfl (.tmp 35) (.tmp 37) 23 5 (.int .u8 0) 1 rfl Try.underlying23 fY rfl (by decide) (by omega) AoU DJ cn _ _ _ (fun _=>True) (fun _=>False) rfl rfl ?aO ?aR (fun _ _ h=>h) (fun _ h=>h.elim) ?aF ?aB ?aS ?aL ?_;(case aR=>exact Kd.aW oq.out (bz HB));(case aB=>exact bz HB);(case aF=>exact (fun _ _=>trivial));(case aO=>exact (Kd.rz Sy));(case aS=>exact (af (bz HB)));(case aL=>have:=AbJ.out;omega);intro AvZ sn ho hb hg hat;rw [<- Agv.out] at ho;have aH:=aa.mk (gW (kz jf) hg (Kd.nk Sy.out jf.out (by decide)));have aK:=aa.mk (hb);have bt:=aa.mk (ho);clear jf;clear HB;clear Sy;have jf:=aH;have HB:=aK;have Agw:=bt;clear aH aK bt;clear ho hb hg hat))
  go_ret2
  exact ⟨_,by first|rfl|(simp [aj,ak]<;>rfl)|(simp [*,aj,ak]<;>rfl),by (with_reducible repeat (first|apply Kd.fg|apply Kd.eV|apply Kd.fj));exact Agw.out,bz HB⟩
 rw [av c5] at H
 cases H
def nF.f (k:Nat) (aU:Int) (bh:Int) (bn:Int) (bu:Int) (cn:List Int):Option (Bool):=(iE.f aU bh bn bu cn).bind fun JG=>(if JG.2=0 then ((mK.f k JG.1).bind fun Sz=>(some (Sz==0))) else (some false))
theorem nF.calls (k:Nat) (aU:Int) (bh:Int) (bn:Int) (bu:Int) (fI:Option Addr) (fJ:Nat) (cn:List Int) (r:Bool) (w:World) (jP:Kd.C (Kd.int .u8) w fI cn.length cn) (jQ:cn.length<=fJ) (h:nF.f k aU bh bn bu cn=some r):
  Calls Try.prog 162 #[.agg #[.int .u8 aU,.int .u8 bh,.int .u16 bn,.int .u32 bu,.slice fI cn.length fJ]] w fun e w'=>e= .returned (.bool r) /\ Below w.heap.size w w':=by
 have oA:=Try.underlying101;have oq:=aa.mk jP;have oY:=aa.mk jQ;clear jP jQ;have HB:=gI w;have H:((iE.f aU bh bn bu cn).bind fun JG=>(if JG.2=0 then ((mK.f k JG.1).bind fun Sz=>(some (Sz==0))) else (some false)))=some r:=h;clear h;replace H:=dc H;obtain ⟨⟨Acl,LW⟩,uM,H⟩:=H
 (try dsimp -simprocs only at H)
 have A2:=aa.mk uM;clear uM
 by_cases c3:LW=0
 ·rw [aq c3] at H
  have oJ:(LW==0)=true:=fF c3;have qI:(LW !=0)=false:=kL c3;clear c3;replace H:=dc H;obtain ⟨Sz,qo,H⟩:=H
  (try dsimp -simprocs only at H)
  have A4:=aa.mk qo;clear qo;obtain rfl:=cN H
  go_enter Try.func162,Try.ntmps162
  go_wp2_with (first|((with_reducible refine aA (N:=1) rfl ?_);refine aC ?hg (N:=1) ?hd (cs:= #[.int .u8 aU,.int .u8 bh,.int .u16 bn,.int .u32 bu,.slice fI cn.length fJ]) (t:=101) ?hr ?_;(case hd=>rfl);(case hg=>rfl);(case hr=>first|(go_simp;done)|(go_simp;rfl));intro sA hg w5 bJ hb;have aH:=aa.mk (au (bz HB) hb);have aK:=aa.mk (bJ);have bt:=aa.mk ((by rw [hg];exact (af (bz HB)):w.heap.size<=sA));have cC:=aa.mk ((by rw [hg];exact (af (bz HB)):w.heap.size<=sA));clear HB;have HB:=aH;have kN:=aK;have Agx:=bt;have Agy:=cC;clear aH aK bt cC;clear hb bJ hg;have Gv:w5.cell? ⟨sA,0,none⟩=some (.int .u8 aU):=cz kN.out 0 rfl;have Gw:w5.cell? ⟨sA,1,none⟩=some (.int .u8 bh):=cz kN.out 1 rfl;have Gx:w5.cell? ⟨sA,2,none⟩=some (.int .u16 bn):=cz kN.out 2 rfl;have Gy:w5.cell? ⟨sA,3,none⟩=some (.int .u32 bu):=cz kN.out 3 rfl;have SA:w5.cell? ⟨sA,4,none⟩=some (.slice fI cn.length fJ):=cz kN.out 4 rfl;have Gz:=ae kN.out 0;have GA:=ae kN.out 1;have GD:=ae kN.out 2;have GF:=ae kN.out 3;have SB:=ae kN.out 4)|((with_reducible refine az (f:=112) rfl ?_);refine gL 7 Try.func112 #[.agg #[.int .u8 aU,.int .u8 bh,.int .u16 bn,.int .u32 bu,.slice fI cn.length fJ]] ?_;(with_reducible refine (iE.calls aU bh bn bu _ _ cn Acl LW _ ?aE ?aG A2.out).mono ?_);(case aE=>exact Kd.aW oq.out (bz HB));(case aG=>exact oY.out);rintro e w7 ⟨AoV,rfl,gC,hb⟩;refine ⟨_,rfl, ?_⟩;have aH:=aa.mk (Kd.bP gC (af (bz HB)));have aK:=aa.mk (bq (kz kN) hb);have bt:=aa.mk (au (bz HB) hb);clear kN;clear HB;have DK:=aH;have kN:=aK;have HB:=bt;clear aH aK bt;(try clear hb);(try clear hb2);(try clear hk);(try clear hi);(try clear gC);obtain ⟨Ao8,co8,eo8⟩:=Kd.dn DK.out;subst eo8)|(go_at_call 90;(with_reducible refine (mK.calls k _ _ Acl Sz _ ?aE ?aG A4.out).mono ?_);(case aE=>repeat (first|exact (Kd.ay DK.out).2.2|(with_reducible refine Kd.fH ?_ _)|(with_reducible refine Kd.fz ?_ _)|(with_reducible refine Kd.gQ ?_)));(case aG=>exact (Kd.ay DK.out).2.1);rintro e w9 ⟨rfl,hb⟩;have aH:=aa.mk (Kd.fX (Kd.rz DK) hb);have aK:=aa.mk (bq (kz kN) hb);have bt:=aa.mk (au (bz HB) hb);clear DK;clear kN;clear HB;have DK:=aH;have kN:=aK;have HB:=bt;clear aH aK bt;(try clear hb);(try clear hb2);(try clear hk);(try clear hi)))
  go_ret
  exact ⟨by first|rfl|(simp [aj,ak]<;>rfl)|(simp [*,aj,ak]<;>rfl),bz HB⟩
 rw [av c3] at H
 have oJ:(LW==0)=false:=fq c3;have qI:(LW !=0)=true:=lf c3;obtain rfl:=cN H
 go_enter Try.func162,Try.ntmps162
 go_wp2_with (first|((with_reducible refine aA (N:=1) rfl ?_);refine aC ?hg (N:=1) ?hd (cs:= #[.int .u8 aU,.int .u8 bh,.int .u16 bn,.int .u32 bu,.slice fI cn.length fJ]) (t:=101) ?hr ?_;(case hd=>rfl);(case hg=>rfl);(case hr=>first|(go_simp;done)|(go_simp;rfl));intro sA hg ku bJ hb;have aH:=aa.mk (au (bz HB) hb);have aK:=aa.mk (bJ);have bt:=aa.mk ((by rw [hg];exact (af (bz HB)):w.heap.size<=sA));have cC:=aa.mk ((by rw [hg];exact (af (bz HB)):w.heap.size<=sA));clear HB;have HB:=aH;have kN:=aK;have Agx:=bt;have Agy:=cC;clear aH aK bt cC;clear hb bJ hg;have xT:ku.cell? ⟨sA,0,none⟩=some (.int .u8 aU):=cz kN.out 0 rfl;have xU:ku.cell? ⟨sA,1,none⟩=some (.int .u8 bh):=cz kN.out 1 rfl;have xV:ku.cell? ⟨sA,2,none⟩=some (.int .u16 bn):=cz kN.out 2 rfl;have xW:ku.cell? ⟨sA,3,none⟩=some (.int .u32 bu):=cz kN.out 3 rfl;have GX:ku.cell? ⟨sA,4,none⟩=some (.slice fI cn.length fJ):=cz kN.out 4 rfl;have xX:=ae kN.out 0;have xY:=ae kN.out 1;have xZ:=ae kN.out 2;have yc:=ae kN.out 3;have GY:=ae kN.out 4)|((with_reducible refine az (f:=112) rfl ?_);refine gL 7 Try.func112 #[.agg #[.int .u8 aU,.int .u8 bh,.int .u16 bn,.int .u32 bu,.slice fI cn.length fJ]] ?_;(with_reducible refine (iE.calls aU bh bn bu _ _ cn Acl LW _ ?aE ?aG A2.out).mono ?_);(case aE=>exact Kd.aW oq.out (bz HB));(case aG=>exact oY.out);rintro e nP ⟨AoV,rfl,gC,hb⟩;refine ⟨_,rfl, ?_⟩;have aH:=aa.mk (Kd.bP gC (af (bz HB)));have aK:=aa.mk (bq (kz kN) hb);have bt:=aa.mk (au (bz HB) hb);clear kN;clear HB;have DK:=aH;have kN:=aK;have HB:=bt;clear aH aK bt;(try clear hb);(try clear hb2);(try clear hk);(try clear hi);(try clear gC)))
 go_ret
 exact ⟨by first|rfl|(simp [aj,ak]<;>rfl)|(simp [*,aj,ak]<;>rfl),bz HB⟩
attribute [local go_sem] dI dJ eI eJ cO cP dK dL
def kJ.f (k:Nat) (aU:Int) (bh:Int) (bn:Int) (bu:Int) (cn:List Int) (yp:Int) (yq:Int) (yt:Int) (yu:Int) (yw:Int) (yx:Int) (rP:Int) (rQ:Int) (rC:List Int) (rD:List Int):Option (Bool):=(nF.f k aU bh bn bu cn).bind fun Po=>(some Po)
theorem kJ.calls (k:Nat) (aU:Int) (bh:Int) (bn:Int) (bu:Int) (fI:Option Addr) (fJ:Nat) (cn:List Int) (yp:Int) (yq:Int) (yt:Int) (yu:Int) (yw:Int) (yx:Int) (rP:Int) (rQ:Int) (AZ:Option Addr) (Ba:Nat) (rC:List Int) (Bb:Option Addr) (Bc:Nat) (rD:List Int) (r:Bool) (w:World) (jP:Kd.C (Kd.int .u8) w fI cn.length cn) (jQ:cn.length<=fJ) (BC:Kd.C (Kd.int .u8) w AZ rC.length rC) (BD:rC.length<=Ba) (BF:Kd.C (Kd.int .u8) w Bb rD.length rD) (BG:rD.length<=Bc) (h:kJ.f k aU bh bn bu cn yp yq yt yu yw yx rP rQ rC rD=some r):
  Calls Try.prog 161 #[.agg #[.int .u8 aU,.int .u8 bh,.int .u16 bn,.int .u32 bu,.slice fI cn.length fJ],.agg #[.int .u8 yp,.int .u8 yq,.int .u8 yt,.int .u16 yu,.int .u8 yw,.int .u16 yx,.int .u32 rP,.int .u32 rQ,.slice AZ rC.length Ba,.slice Bb rD.length Bc]] w fun e w'=>e= .returned (.bool r) /\ Below w.heap.size w w':=by
 have JH:=Try.underlying183;have iW:=Try.underlying73;have oA:=Try.underlying101;have oq:=aa.mk jP;have oY:=aa.mk jQ;clear jP jQ;have Yn:=aa.mk BC;have Yo:=aa.mk BD;clear BC BD;have Yp:=aa.mk BF;have Yq:=aa.mk BG;clear BF BG;have HB:=gI w;have H:((nF.f k aU bh bn bu cn).bind fun Po=>(some Po))=some r:=h;clear h;replace H:=dc H;obtain ⟨Po,wK,H⟩:=H;replace H:(some Po)=some r:=H;have A3:=aa.mk wK;clear wK;obtain rfl:=cN H
 go_enter Try.func161,Try.ntmps161
 go_wp2_with (first|((with_reducible refine aA (N:=2) rfl ?_);refine aC ?hg (N:=2) ?hd (cs:= #[.int .u8 aU,.int .u8 bh,.int .u16 bn,.int .u32 bu,.slice fI cn.length fJ]) (t:=183) ?hr ?_;(case hd=>rfl);(case hg=>rfl);(case hr=>first|(go_simp;done)|(go_simp;rfl));intro xu hg w4 bJ hb;have aH:=aa.mk (au (bz HB) hb);have aK:=aa.mk (bJ);have bt:=aa.mk ((by rw [hg];exact (af (bz HB)):w.heap.size<=xu));have cC:=aa.mk ((by rw [hg];exact (af (bz HB)):w.heap.size<=xu));clear HB;have HB:=aH;have qj:=aK;have AsN:=bt;have AsO:=cC;clear aH aK bt cC;clear hb bJ hg)|((with_reducible refine aA (N:=3) rfl ?_);refine aC ?hg (N:=3) ?hd (cs:= #[.int .u8 yp,.int .u8 yq,.int .u8 yt,.int .u16 yu,.int .u8 yw,.int .u16 yx,.int .u32 rP,.int .u32 rQ,.slice AZ rC.length Ba,.slice Bb rD.length Bc]) (t:=73) ?hr ?_;(case hd=>rfl);(case hg=>rfl);(case hr=>first|(go_simp;done)|(go_simp;rfl));intro Ny hg w5 bJ hb;have aH:=aa.mk (bq (kz qj) hb);have aK:=aa.mk (au (bz HB) hb);have bt:=aa.mk (bJ);have cC:=aa.mk ((by rw [hg];exact (af (bz HB)):w.heap.size<=Ny));have uA:=aa.mk ((by rw [hg];exact (af (bz HB)):w.heap.size<=Ny));have yN:=aa.mk ((by rw [hg];exact Nat.ne_of_lt (lZ (g:=xu) (o:= .cells #[.int .u8 aU,.int .u8 bh,.int .u16 bn,.int .u32 bu,.slice fI cn.length fJ] 183 (0,0)) (kz qj)):xu≠Ny));have BH:=aa.mk ((by rw [hg];exact Nat.ne_of_gt (lZ (g:=xu) (o:= .cells #[.int .u8 aU,.int .u8 bh,.int .u16 bn,.int .u32 bu,.slice fI cn.length fJ] 183 (0,0)) (kz qj)):Ny≠xu));clear qj;clear HB;have qj:=aH;have HB:=aK;have SC:=bt;have AsP:=cC;have AsQ:=uA;have Pp:=yN;have Pq:=BH;clear aH aK bt cC uA yN BH;clear hb bJ hg;have Agc:=Pp.out;have Agd:=Pq.out;have uZ:w5.cell? ⟨xu,0,none⟩=some (.int .u8 aU):=cz qj.out 0 rfl;have vk:w5.cell? ⟨xu,1,none⟩=some (.int .u8 bh):=cz qj.out 1 rfl;have vn:w5.cell? ⟨xu,2,none⟩=some (.int .u16 bn):=cz qj.out 2 rfl;have vp:w5.cell? ⟨xu,3,none⟩=some (.int .u32 bu):=cz qj.out 3 rfl;have wX:w5.cell? ⟨xu,4,none⟩=some (.slice fI cn.length fJ):=cz qj.out 4 rfl;have vq:=ae qj.out 0;have vu:=ae qj.out 1;have vv:=ae qj.out 2;have vw:=ae qj.out 3;have wY:=ae qj.out 4)|((with_reducible refine az (f:=162) rfl ?_);refine gL 7 Try.func162 #[.agg #[.int .u8 aU,.int .u8 bh,.int .u16 bn,.int .u32 bu,.slice fI cn.length fJ]] ?_;(with_reducible refine (nF.calls k aU bh bn bu _ _ cn Po _ ?aE ?aG A3.out).mono ?_);(case aE=>exact Kd.aW oq.out (bz HB));(case aG=>exact oY.out);rintro e w8 ⟨rfl,hb⟩;refine ⟨_,rfl, ?_⟩;have aH:=aa.mk (bq (kz qj) hb);have aK:=aa.mk (bq (kz SC) hb);have bt:=aa.mk (au (bz HB) hb);clear qj;clear SC;clear HB;have qj:=aH;have SC:=aK;have HB:=bt;clear aH aK bt;(try clear hb);(try clear hb2);(try clear hk);(try clear hi)))
 go_ret
 exact ⟨by first|rfl|(simp [aj,ak]<;>rfl)|(simp [*,aj,ak]<;>rfl),bz HB⟩
attribute [local go_sem] dI dJ eI eJ cO cP dK dL
def mL.f (aU:Int) (bh:Int) (bn:Int) (fR:List Int):Option (Int):=some 17
theorem mL.calls (aU:Int) (bh:Int) (bn:Int) (qa:Option Addr) (qb:Nat) (fR:List Int) (r:Int) (w:World) (xb:Kd.C (Kd.int .u8) w qa fR.length fR) (xd:fR.length<=qb) (h:mL.f aU bh bn fR=some r):
  Calls Try.prog 155 #[.agg #[.int .u16 aU,.int .u16 bh,.int .u16 bn,.slice qa fR.length qb]] w fun e w'=>e= .returned (.int .u8 r) /\ Below w.heap.size w w':=by
 have Js:=Try.underlying179;have FD:=aa.mk xb;have Nn:=aa.mk xd;clear xb xd;have HB:=gI w;have H:(some 17)=some r:=h;clear h;obtain rfl:=cN H
 go_enter Try.func155,Try.ntmps155
 go_wp2_with (first|((with_reducible refine aA (N:=1) rfl ?_);refine aC ?hg (N:=1) ?hd (cs:= #[.int .u16 aU,.int .u16 bh,.int .u16 bn,.slice qa fR.length qb]) (t:=179) ?hr ?_;(case hd=>rfl);(case hg=>rfl);(case hr=>first|(go_simp;done)|(go_simp;rfl));intro YD hg w2 bJ hb;have aH:=aa.mk (au (bz HB) hb);have aK:=aa.mk (bJ);have bt:=aa.mk ((by rw [hg];exact (af (bz HB)):w.heap.size<=YD));have cC:=aa.mk ((by rw [hg];exact (af (bz HB)):w.heap.size<=YD));clear HB;have HB:=aH;have AsR:=aK;have AsS:=bt;have AsT:=cC;clear aH aK bt cC;clear hb bJ hg))
 go_ret
 exact ⟨by first|rfl|(simp [aj,ak]<;>rfl)|(simp [*,aj,ak]<;>rfl),bz HB⟩
attribute [local go_sem] dI dJ eI eJ cO cP dK dL
def nf.f (aU:Int) (bh:Int) (bn:Int) (bu:Int) (dP:Int) (dR:Int) (dX:Int) (dY:Int) (bH:List Int) (cE:List Int):Option (Int):=some 6
theorem nf.calls (aU:Int) (bh:Int) (bn:Int) (bu:Int) (dP:Int) (dR:Int) (dX:Int) (dY:Int) (jq:Option Addr) (jr:Nat) (bH:List Int) (js:Option Addr) (ju:Nat) (cE:List Int) (r:Int) (w:World) (tN:Kd.C (Kd.int .u8) w jq bH.length bH) (tO:bH.length<=jr) (tP:Kd.C (Kd.int .u8) w js cE.length cE) (tQ:cE.length<=ju) (h:nf.f aU bh bn bu dP dR dX dY bH cE=some r):
  Calls Try.prog 157 #[.agg #[.int .u16 aU,.int .u16 bh,.int .u32 bn,.int .u32 bu,.int .u8 dP,.int .u16 dR,.int .u16 dX,.int .u16 dY,.slice jq bH.length jr,.slice js cE.length ju]] w fun e w'=>e= .returned (.int .u8 r) /\ Below w.heap.size w w':=by
 have JB:=Try.underlying181;have BI:=aa.mk tN;have JC:=aa.mk tO;clear tN tO;have BJ:=aa.mk tP;have JD:=aa.mk tQ;clear tP tQ;have HB:=gI w;have H:(some 6)=some r:=h;clear h;obtain rfl:=cN H
 go_enter Try.func157,Try.ntmps157
 go_wp2_with (first|((with_reducible refine aA (N:=1) rfl ?_);refine aC ?hg (N:=1) ?hd (cs:= #[.int .u16 aU,.int .u16 bh,.int .u32 bn,.int .u32 bu,.int .u8 dP,.int .u16 dR,.int .u16 dX,.int .u16 dY,.slice jq bH.length jr,.slice js cE.length ju]) (t:=181) ?hr ?_;(case hd=>rfl);(case hg=>rfl);(case hr=>first|(go_simp;done)|(go_simp;rfl));intro YE hg w2 bJ hb;have aH:=aa.mk (au (bz HB) hb);have aK:=aa.mk (bJ);have bt:=aa.mk ((by rw [hg];exact (af (bz HB)):w.heap.size<=YE));have cC:=aa.mk ((by rw [hg];exact (af (bz HB)):w.heap.size<=YE));clear HB;have HB:=aH;have AsU:=aK;have AsV:=bt;have AsW:=cC;clear aH aK bt cC;clear hb bJ hg))
 go_ret
 exact ⟨by first|rfl|(simp [aj,ak]<;>rfl)|(simp [*,aj,ak]<;>rfl),bz HB⟩
attribute [local go_sem] dI dJ eI eJ cO cP dK dL
def kK.f (aU:Int) (bh:Int) (bn:Int) (bu:Int) (cn:List Int):Option (Int):=some 1
theorem kK.calls (aU:Int) (bh:Int) (bn:Int) (bu:Int) (fI:Option Addr) (fJ:Nat) (cn:List Int) (r:Int) (w:World) (jP:Kd.C (Kd.int .u8) w fI cn.length cn) (jQ:cn.length<=fJ) (h:kK.f aU bh bn bu cn=some r):
  Calls Try.prog 160 #[.agg #[.int .u8 aU,.int .u8 bh,.int .u16 bn,.int .u32 bu,.slice fI cn.length fJ]] w fun e w'=>e= .returned (.int .u8 r) /\ Below w.heap.size w w':=by
 have JH:=Try.underlying183;have oq:=aa.mk jP;have oY:=aa.mk jQ;clear jP jQ;have HB:=gI w;have H:(some 1)=some r:=h;clear h;obtain rfl:=cN H
 go_enter Try.func160,Try.ntmps160
 go_wp2_with (first|((with_reducible refine aA (N:=1) rfl ?_);refine aC ?hg (N:=1) ?hd (cs:= #[.int .u8 aU,.int .u8 bh,.int .u16 bn,.int .u32 bu,.slice fI cn.length fJ]) (t:=183) ?hr ?_;(case hd=>rfl);(case hg=>rfl);(case hr=>first|(go_simp;done)|(go_simp;rfl));intro YF hg w2 bJ hb;have aH:=aa.mk (au (bz HB) hb);have aK:=aa.mk (bJ);have bt:=aa.mk ((by rw [hg];exact (af (bz HB)):w.heap.size<=YF));have cC:=aa.mk ((by rw [hg];exact (af (bz HB)):w.heap.size<=YF));clear HB;have HB:=aH;have AsX:=aK;have AsY:=bt;have AsZ:=cC;clear aH aK bt cC;clear hb bJ hg))
 go_ret
 exact ⟨by first|rfl|(simp [aj,ak]<;>rfl)|(simp [*,aj,ak]<;>rfl),bz HB⟩
attribute [local go_sem] dI dJ eI eJ cO cP dK dL
mutual
def bO.j0:Nat ->List Int ->Int ->Bool ->Option (Int×Bool)
 |0,_,_,_=>none
 |k+1,x0,x4,x29=>if x29=true then (some (0,false)) else (if 9<(x0.length:Int) then (if (rd x0 9)=17 then (bO.j1 k x0 x4 (rd x0 9) ((rd x0 9)==17)) else (bO.j1 k x0 x4 (rd x0 9) ((rd x0 9)==6))) else (none))
def bO.j1:Nat ->List Int ->Int ->Int ->Bool ->Option (Int×Bool)
 |0,_,_,_,_=>none
 |k+1,x0,x4,x32,x33=>if x33=true then (some (x4,true)) else (if x32=1 then (if 0<=x4 then (if x4<=(x0.length:Int) then ((fZ.f (x0.drop (x4:Int).toNat)).bind fun LX=>(some (x4,LX))) else (none)) else (none)) else (some (0,false)))
end
def bO.f (k:Nat) (l0:List Int):Option (Int×Bool):=if (l0.length:Int)<20 then (some (0,false)) else (if 0<(l0.length:Int) then (if ((rd l0 0) / 16)=4 then (if (wrap64 (4*(wrap64 (Go.bits .and .u8 (rd l0 0) 15))))<20 then (bO.j0 k l0 (wrap64 (4*(wrap64 (Go.bits .and .u8 (rd l0 0) 15)))) true) else (bO.j0 k l0 (wrap64 (4*(wrap64 (Go.bits .and .u8 (rd l0 0) 15)))) (decide ((l0.length:Int)<(wrap64 ((wrap64 (4*(wrap64 (Go.bits .and .u8 (rd l0 0) 15))))+8)))))) else (bO.j0 k l0 (wrap64 (4*(wrap64 (Go.bits .and .u8 (rd l0 0) 15)))) true)) else (none))
theorem bO.calls (k:Nat) (A0:Option Addr) (c0:Nat) (l0:List Int) (r1:Int) (r2:Bool) (w:World) (hr0:Kd.C (Kd.int .u8) w A0 l0.length l0) (hc0:l0.length<=c0) (h:bO.f k l0=some (r1,r2)):
  Calls Try.prog 86 #[.slice A0 l0.length c0] w fun e w'=>e= .returned (.tuple #[.int .i64 r1,.bool r2]) /\ Below w.heap.size w w':=by
 have gj:=aa.mk hr0;have jx:=aa.mk hc0;clear hr0 hc0;have HB:=gI w;have H:(if (l0.length:Int)<20 then (some (0,false)) else (if 0<(l0.length:Int) then (if ((rd l0 0) / 16)=4 then (if (wrap64 (4*(wrap64 (Go.bits .and .u8 (rd l0 0) 15))))<20 then (bO.j0 k l0 (wrap64 (4*(wrap64 (Go.bits .and .u8 (rd l0 0) 15)))) true) else (bO.j0 k l0 (wrap64 (4*(wrap64 (Go.bits .and .u8 (rd l0 0) 15)))) (decide ((l0.length:Int)<(wrap64 ((wrap64 (4*(wrap64 (Go.bits .and .u8 (rd l0 0) 15))))+8)))))) else (bO.j0 k l0 (wrap64 (4*(wrap64 (Go.bits .and .u8 (rd l0 0) 15)))) true)) else (none)))=some (r1,r2):=h;clear h
 by_cases c2:(l0.length:Int)<20
 ·rw [aq c2] at H
  have j4:decide ((l0.length:Int)<20)=true:=bN c2;have mq:decide (l0.length<20)=true:=bN (by omega);clear c2;simp only [Option.some.injEq,Prod.mk.injEq] at H
  obtain ⟨rfl,rfl⟩:=H
  go_enter Try.func86,Try.ntmps86
  go_wp2
  go_ret2
  exact ⟨by first|rfl|(simp [aj,ak]<;>rfl)|(simp [*,aj,ak]<;>rfl),bz HB⟩
 rw [av c2] at H
 have j4:decide ((l0.length:Int)<20)=false:=gN c2;have mq:decide (l0.length<20)=false:=gN (by omega);clear c2
 by_cases c3:0<(l0.length:Int)
 rotate_left
 ·rw [av c3] at H
  cases H
 rw [aq c3] at H
 have oJ:decide (0<(l0.length:Int))=true:=bN c3;have qI:decide (0<l0.length)=true:=bN (by omega);clear c3;have HC4:=aa.mk H;clear H;have SD:0<=(0:Int):=(by omega)
 have SE:0<(l0.length:Int):=gA;obtain ⟨JI,AoY,CM⟩:=Kd.dG gj.out 0 SD SE
 cases AoY
 have As0:(0<l0.length)=True:=eq_true (by omega)
 (try rw [show ((0:Int)).toNat=0 from rfl] at CM)
 (try rw [Addr.add_zero'] at CM)
 replace SD:=eq_true SD;replace SE:=eq_true SE
 go_enter Try.func86,Try.ntmps86
 go_upto_region 4 with (fail)
 go_cut [29] (fun v29 wc=>∃ (kq:Nat) (Nz:Bool),v29= .bool Nz /\ aa (bO.j0 kq l0 (wrap64 (4*(wrap64 (Go.bits .and .u8 (rd l0 0) 15)))) Nz=some (r1,r2)) /\ aa (kq<=k) /\ aa (Below w.heap.size w wc))
 case first=>
  have H:=HC4.out;clear HC4
  by_cases c5:((rd l0 0) / 16)=4
  ·rw [aq c5] at H
   have mJ:(((rd l0 0) / 16)==4)=true:=fF c5;have qn:(((rd l0 0) / 16) !=4)=false:=kL c5;clear c5
   (first|rw [mJ]|(simp only [gK,kD];rw [mJ])|skip)
   by_cases c6:(wrap64 (4*(wrap64 (Go.bits .and .u8 (rd l0 0) 15))))<20
   ·rw [aq c6] at H
    have um:decide ((wrap64 (4*(wrap64 (Go.bits .and .u8 (rd l0 0) 15))))<20)=true:=bN c6;clear c6;have H':=aa.mk H;clear H;have DL:0<=(0:Int):=(by omega)
    have DM:0<(l0.length:Int):=gA;obtain ⟨JJ,SF,lG⟩:=Kd.dG gj.out 0 DL DM;obtain rfl:JI=JJ:=(by injection SF)
    have YG:(0<l0.length)=True:=eq_true (by omega)
    (try rw [show ((0:Int)).toNat=0 from rfl] at lG)
    (try rw [Addr.add_zero'] at lG)
    replace lG:=(HB.out.cell (dF w _ lG)).trans lG;replace DL:=eq_true DL;replace DM:=eq_true DM
    go_wp2
    go_meet
    case rel=>exact ⟨_,(true),(by first|rfl|(simp;done)|(simp [*];done)),H',⟨by first|omega|exact Nat.le_refl _⟩,⟨bz HB⟩⟩
   rw [av c6] at H
   have um:decide ((wrap64 (4*(wrap64 (Go.bits .and .u8 (rd l0 0) 15))))<20)=false:=gN c6;clear c6;have H':=aa.mk H;clear H;have DL:0<=(0:Int):=(by omega)
   have DM:0<(l0.length:Int):=gA;obtain ⟨JJ,SF,lG⟩:=Kd.dG gj.out 0 DL DM;obtain rfl:JI=JJ:=(by injection SF)
   have YG:(0<l0.length)=True:=eq_true (by omega)
   (try rw [show ((0:Int)).toNat=0 from rfl] at lG)
   (try rw [Addr.add_zero'] at lG)
   replace lG:=(HB.out.cell (dF w _ lG)).trans lG;replace DL:=eq_true DL;replace DM:=eq_true DM
   go_wp2
   go_meet
   case rel=>exact ⟨_,(decide ((l0.length:Int)<(wrap64 ((wrap64 (4*(wrap64 (Go.bits .and .u8 (rd l0 0) 15))))+8)))),(by first|rfl|(simp;done)|(simp [*];done)),H',⟨by first|omega|exact Nat.le_refl _⟩,⟨bz HB⟩⟩
  rw [av c5] at H
  have mJ:(((rd l0 0) / 16)==4)=false:=fq c5;have qn:(((rd l0 0) / 16) !=4)=true:=lf c5
  (first|rw [mJ]|(simp only [gK,kD];rw [mJ])|skip)
  have H':=aa.mk H;clear H;have DL:0<=(0:Int):=(by omega)
  have DM:0<(l0.length:Int):=gA;obtain ⟨JJ,SF,lG⟩:=Kd.dG gj.out 0 DL DM;obtain rfl:JI=JJ:=(by injection SF)
  have YG:(0<l0.length)=True:=eq_true (by omega)
  (try rw [show ((0:Int)).toNat=0 from rfl] at lG)
  (try rw [Addr.add_zero'] at lG)
  replace lG:=(HB.out.cell (dF w _ lG)).trans lG;replace DL:=eq_true DL;replace DM:=eq_true DM
  go_wp2
  go_meet
  case rel=>exact ⟨_,(true),(by first|rfl|(simp;done)|(simp [*];done)),H',⟨by first|omega|exact Nat.le_refl _⟩,⟨bz HB⟩⟩
 clear HC4
 try clear c2
 try clear j4
 try clear mq
 try clear c3
 try clear oJ
 try clear qI
 try clear CM
 try clear SD
 try clear SE
 obtain ⟨kq,Nz,rfl,HA,HJ3,HB⟩:=hcut
 cases kq with
 |zero=>exact absurd HA.out (by simp [bO.j0])
 |succ kj3=>
  have H:=HA.out;clear HA;simp only [bO.j0] at H
  by_cases c7:Nz=true
  ·subst c7
   have H1:(some (0,false))=some (r1,r2):=by rw [aq rfl] at H;exact H
   clear H;have H:=H1;clear H1;simp only [Option.some.injEq,Prod.mk.injEq] at H
   obtain ⟨rfl,rfl⟩:=H
   go_wp2
   go_ret2
   exact ⟨by first|rfl|(simp [aj,ak]<;>rfl)|(simp [*,aj,ak]<;>rfl),bz HB⟩
  replace c7:=zE c7
  subst c7;have H1:(if 9<(l0.length:Int) then (if (rd l0 9)=17 then (bO.j1 kj3 l0 (wrap64 (4*(wrap64 (Go.bits .and .u8 (rd l0 0) 15)))) (rd l0 9) ((rd l0 9)==17)) else (bO.j1 kj3 l0 (wrap64 (4*(wrap64 (Go.bits .and .u8 (rd l0 0) 15)))) (rd l0 9) ((rd l0 9)==6))) else (none))=some (r1,r2):=by rw [av (show ¬ (false=true) by decide)] at H;exact H
  clear H;have H:=H1;clear H1
  by_cases c8:9<(l0.length:Int)
  rotate_left
  ·rw [av c8] at H
   cases H
  rw [aq c8] at H
  have nU:decide (9<(l0.length:Int))=true:=bN c8;have Dl:decide (9<l0.length)=true:=bN (by omega);clear c8;have HC9:=aa.mk H;clear H;have V6:0<=(9:Int):=(by omega)
  have V7:9<(l0.length:Int):=gA;obtain ⟨AgB,Ao1,yd⟩:=Kd.dG gj.out 9 V6 V7;obtain rfl:JI=AgB:=(by injection Ao1)
  (try simp only [show (9:Int).toNat=9 from rfl,Nat.reduceMul,Nat.reduceEqDiff,Go.Addr.add,↓reduceIte] at yd)
  have As2:(9<l0.length)=True:=eq_true (by omega)
  (try rw [show ((9:Int)).toNat=9 from rfl] at yd)
  replace yd:=(HB.out.cell (dF w _ yd)).trans yd;replace V6:=eq_true V6;replace V7:=eq_true V7
  go_upto_if 33 with (fail)
  go_cut [33] (fun v33 wc=>∃ (kq:Nat) (NA:Bool),v33= .bool NA /\ aa (bO.j1 kq l0 (wrap64 (4*(wrap64 (Go.bits .and .u8 (rd l0 0) 15)))) (rd l0 9) NA=some (r1,r2)) /\ aa (kq<=kj3) /\ aa (Below w.heap.size w wc))
  case first=>
   have H:=HC9.out;clear HC9
   by_cases zB:(rd l0 9)=17
   ·rw [aq zB] at H
    have uy:((rd l0 9)==17)=true:=fF zB;have Nc:((rd l0 9) !=17)=false:=kL zB;clear zB
    (first|rw [uy]|(simp only [gK,kD];rw [uy])|skip)
    have H':=aa.mk H;clear H
    go_wp2
    go_meet
    case rel=>exact ⟨_,(((rd l0 9)==17)),(by first|rfl|(simp;done)|(simp [*];done)),H',⟨by have:=HJ3.out;first|omega|exact Nat.le_refl _⟩,⟨bz HB⟩⟩
   rw [av zB] at H
   have uy:((rd l0 9)==17)=false:=fq zB;have Nc:((rd l0 9) !=17)=true:=lf zB
   (first|rw [uy]|(simp only [gK,kD];rw [uy])|skip)
   have H':=aa.mk H;clear H
   go_wp2
   go_meet
   case rel=>exact ⟨_,(((rd l0 9)==6)),(by first|rfl|(simp;done)|(simp [*];done)),H',⟨by have:=HJ3.out;first|omega|exact Nat.le_refl _⟩,⟨bz HB⟩⟩
  clear HC9
  try clear c2
  try clear j4
  try clear mq
  try clear c3
  try clear oJ
  try clear qI
  try clear c7
  try clear c8
  try clear nU
  try clear Dl
  try clear CM
  try clear yd
  try clear SD
  try clear V6
  try clear SE
  try clear V7
  obtain ⟨kq,NA,rfl,HA,HJ8,HB⟩:=hcut
  cases kq with
  |zero=>exact absurd HA.out (by simp [bO.j1])
  |succ kj8=>
   have H:=HA.out;clear HA;simp only [bO.j1] at H
   by_cases qX:NA=true
   ·subst qX
    have H1:(some ((wrap64 (4*(wrap64 (Go.bits .and .u8 (rd l0 0) 15)))),true))=some (r1,r2):=by rw [aq rfl] at H;exact H
    clear H;have H:=H1;clear H1;simp only [Option.some.injEq,Prod.mk.injEq] at H
    obtain ⟨rfl,rfl⟩:=H
    go_wp2
    go_ret2
    exact ⟨by first|rfl|(simp [aj,ak]<;>rfl)|(simp [*,aj,ak]<;>rfl),bz HB⟩
   replace qX:=zE qX
   subst qX;have H1:(if (rd l0 9)=1 then (if 0<=(wrap64 (4*(wrap64 (Go.bits .and .u8 (rd l0 0) 15)))) then (if (wrap64 (4*(wrap64 (Go.bits .and .u8 (rd l0 0) 15))))<=(l0.length:Int) then ((fZ.f (l0.drop ((wrap64 (4*(wrap64 (Go.bits .and .u8 (rd l0 0) 15)))):Int).toNat)).bind fun LX=>(some ((wrap64 (4*(wrap64 (Go.bits .and .u8 (rd l0 0) 15)))),LX))) else (none)) else (none)) else (some (0,false)))=some (r1,r2):=by rw [av (show ¬ (false=true) by decide)] at H;exact H
   clear H;have H:=H1;clear H1
   by_cases uQ:(rd l0 9)=1
   rotate_left
   ·rw [av uQ] at H
    have FA:((rd l0 9)==1)=false:=fq uQ;have Nf:((rd l0 9) !=1)=true:=lf uQ;simp only [Option.some.injEq,Prod.mk.injEq] at H
    obtain ⟨rfl,rfl⟩:=H
    go_wp2
    go_ret2
    exact ⟨by first|rfl|(simp [aj,ak]<;>rfl)|(simp [*,aj,ak]<;>rfl),bz HB⟩
   rw [aq uQ] at H
   have FA:((rd l0 9)==1)=true:=fF uQ;have Nf:((rd l0 9) !=1)=false:=kL uQ;clear uQ;obtain ⟨pH,tS⟩:∃ j_:Int,(wrap64 (4*(wrap64 (Go.bits .and .u8 (rd l0 0) 15))))=j_:=⟨_,rfl⟩
   replace H:(if 0<=(pH) then (if (pH)<=(l0.length:Int) then ((fZ.f (l0.drop ((pH):Int).toNat)).bind fun LX=>(some ((pH),LX))) else (none)) else (none))=some (r1,r2):=by first|(rw [tS] at H;exact H)|(simp only [tS] at H|-;exact H)
   have Acn:(IntKind.i64.wrap (4*(wrap64 (Go.bits .and .u8 (rd l0 0) 15))))=pH:=(gK _).trans tS
   by_cases CN:0<=(pH)
   ·rw [aq CN] at H
    have DN:=eq_true CN;have SG:decide (0<=(pH))=true:=bN CN;clear CN
    by_cases wS:(pH)<=(l0.length:Int)
    ·rw [aq wS] at H
     have wT:=eq_true wS;have Fz:decide ((pH)<=(l0.length:Int))=true:=bN wS;clear wS;replace H:=dc H;obtain ⟨LX,wU,H⟩:=H
     (try dsimp -simprocs only at H)
     have Qq:=aa.mk wU;clear wU;simp only [Option.some.injEq,Prod.mk.injEq] at H
     obtain ⟨rfl,rfl⟩:=H;obtain ⟨AnK,I8,_,I9,_⟩:=info_parts fY;obtain ⟨Qr,Aa4,Rt,Ru⟩:=fS (P:=Try.prog) (Value.int .u8) 0 23 5 .i64 Try.underlying23 I8 I9 (some JI) c0 l0 (pH) gA gA jx.out;have AgC:=aa.mk (Kd.dH (h1:=fun _=>rfl) (Rt _ (Kd.dw gj.out)));have AgD:=aa.mk Ru;clear Rt Ru I8 I9
     go_wp2_with (first|((with_reducible refine az (f:=114) rfl ?_);refine uf (some 43) rfl rfl Try.func114 (by kernel_rfl) rfl #[.slice Qr (l0.drop ((pH):Int).toNat).length (c0 - (pH).toNat)] rfl (by (try simp only [List.map_toArray,List.map_cons,List.map_nil]);first|done|(rw [show (l0.drop ((pH):Int).toNat).length=(l0.length - (pH).toNat) from List.length_drop]<;>rfl)|(simp only [tS];rfl)|rfl|(simp only [List.length_drop,List.length_take];rfl)|(go_simp;done)|(simp [Act.eval,IntKind.signed];done)|(simp [Act.eval,IntKind.signed];rfl)) ?_;(with_reducible refine (fZ.calls _ _ (l0.drop ((pH):Int).toNat) LX _ ?aE ?aG Qq.out).mono ?_);(case aE=>exact Kd.aW AgC.out (bz HB));(case aG=>exact AgD.out);rintro e Vb ⟨rfl,hb⟩;refine ⟨_,rfl, ?_⟩;have aH:=aa.mk (au (bz HB) hb);clear HB;have HB:=aH;clear aH;(try clear hb);(try clear hb2);(try clear hk);(try clear hi)))
     go_ret2
     exact ⟨by first|rfl|(simp [aj,ak]<;>rfl)|(simp only [<- tS];first|rfl|(simp [aj,ak]<;>rfl))|(simp [*,aj,ak]<;>rfl),bz HB⟩
    rw [av wS] at H
    cases H
   rw [av CN] at H
   cases H
def cH.f (l0:List Int):Option (Int):=if 0<(l0.length:Int) then (if 1<(l0.length:Int) then (some (Go.bits .or .u16 (IntKind.u16.wrap ((IntKind.u16.wrap (rd l0 0))*256)) (IntKind.u16.wrap (rd l0 1)))) else (none)) else (none)
theorem cH.calls (A0:Option Addr) (c0:Nat) (l0:List Int) (r:Int) (w:World) (hr0:Kd.C (Kd.int .u8) w A0 l0.length l0) (hc0:l0.length<=c0) (h:cH.f l0=some r):
  Calls Try.prog 87 #[.slice A0 l0.length c0] w fun e w'=>e= .returned (.int .u16 r) /\ bB w w':=by
 have gj:=aa.mk hr0;have jx:=aa.mk hc0;clear hr0 hc0;have H:(if 0<(l0.length:Int) then (if 1<(l0.length:Int) then (some (Go.bits .or .u16 (IntKind.u16.wrap ((IntKind.u16.wrap (rd l0 0))*256)) (IntKind.u16.wrap (rd l0 1)))) else (none)) else (none))=some r:=h;clear h
 by_cases c2:0<(l0.length:Int)
 rotate_left
 ·rw [av c2] at H
  cases H
 rw [aq c2] at H
 have j4:decide (0<(l0.length:Int))=true:=bN c2;have mq:decide (0<l0.length)=true:=bN (by omega);clear c2
 by_cases c3:1<(l0.length:Int)
 rotate_left
 ·rw [av c3] at H
  cases H
 rw [aq c3] at H
 have oJ:decide (1<(l0.length:Int))=true:=bN c3;have qI:decide (1<l0.length)=true:=bN (by omega);clear c3;obtain rfl:=cN H;have Aco:0<=(0:Int):=(by omega)
 have Acp:0<(l0.length:Int):=gA;obtain ⟨AgE,Ao4,NB⟩:=Kd.dG gj.out 0 Aco Acp
 cases Ao4
 have As3:(0<l0.length)=True:=eq_true (by omega)
 (try rw [show ((0:Int)).toNat=0 from rfl] at NB)
 (try rw [Addr.add_zero'] at NB)
 replace Aco:=eq_true Aco;replace Acp:=eq_true Acp;have Acq:0<=(1:Int):=(by omega)
 have Acr:1<(l0.length:Int):=gA;obtain ⟨AgF,Ao6,NC⟩:=Kd.dG gj.out 1 Acq Acr;obtain rfl:AgE=AgF:=(by injection Ao6)
 (try simp only [show (1:Int).toNat=1 from rfl,Nat.reduceMul,Nat.reduceEqDiff,Go.Addr.add,↓reduceIte] at NC)
 have As4:(1<l0.length)=True:=eq_true (by omega)
 (try rw [show ((1:Int)).toNat=1 from rfl] at NC)
 replace Acq:=eq_true Acq;replace Acr:=eq_true Acr
 go_enter Try.func87,Try.ntmps87
 go_wp2
 repeat (go_quiet (fail);try go_wp2)
 go_ret
 exact ⟨by first|rfl|(simp;done)|(simp [*];done),by repeat (first|exact bB.refl _|apply bB.step)⟩
def dQ.f (l0:List Int):Option (Int):=(cH.f l0).bind fun LY=>(if 2<=(l0.length:Int) then ((cH.f (l0.drop 2)).bind fun LZ=>(some (Go.bits .or .u32 ((((LY) % 4294967296)*65536) % 4294967296) ((LZ) % 4294967296)))) else (none))
theorem dQ.calls (A0:Option Addr) (c0:Nat) (l0:List Int) (r:Int) (w:World) (hr0:Kd.C (Kd.int .u8) w A0 l0.length l0) (hc0:l0.length<=c0) (h:dQ.f l0=some r):
  Calls Try.prog 124 #[.slice A0 l0.length c0] w fun e w'=>e= .returned (.int .u32 r) /\ bB w w':=by
 have gj:=aa.mk hr0;have jx:=aa.mk hc0;clear hr0 hc0;have H:((cH.f l0).bind fun LY=>(if 2<=(l0.length:Int) then ((cH.f (l0.drop 2)).bind fun LZ=>(some (Go.bits .or .u32 ((((LY) % 4294967296)*65536) % 4294967296) ((LZ) % 4294967296)))) else (none)))=some r:=h;clear h;replace H:=dc H;obtain ⟨LY,uM,H⟩:=H
 (try dsimp -simprocs only at H)
 have A2:=aa.mk uM;clear uM
 by_cases c3:2<=(l0.length:Int)
 ·rw [aq c3] at H
  have oJ:=eq_true c3;have qI:decide (2<=(l0.length:Int))=true:=bN c3;clear c3;replace H:=dc H;obtain ⟨LZ,qo,H⟩:=H
  (try dsimp -simprocs only at H)
  have A4:=aa.mk qo;clear qo;obtain rfl:=cN H
  go_enter Try.func124,Try.ntmps124
  go_wp2_with (first|(go_at_call 87;(with_reducible refine (cH.calls _ _ l0 LY _ ?aE ?aG A2.out).mono ?_);(case aE=>repeat (first|exact gj.out|(with_reducible refine Kd.fH ?_ _)|(with_reducible refine Kd.fz ?_ _)|(with_reducible refine Kd.gQ ?_)));(case aG=>exact jx.out);rintro e w' ⟨rfl,⟨nd,rfl⟩⟩;(try first|exact ⟨rfl,_,World.drewN_drewN _ _ _⟩|exact ⟨rfl,_,Eq.trans (World.drewN_drewN _ _ _) (congrArg (World.drewN _) (Nat.add_assoc _ _ _))⟩);obtain ⟨i05,JK,_,JL,_⟩:=info_parts fY;obtain ⟨A5,YH,YI,YJ⟩:=fS (P:=Try.prog) (Value.int .u8) 0 23 5 .i64 Try.underlying23 JK JL A0 c0 l0 2 (by omega) gA jx.out;have JM:=aa.mk (Kd.dH (h1:=fun _=>rfl) (YI _ (Kd.dw gj.out)));have JN:=aa.mk YJ;clear YI YJ JK JL)|(go_at_call 87;refine ug (args':= #[.slice A5 (l0.drop 2).length (c0 - 2)]) (by first|(rw [show (l0.drop 2).length=(l0.length - 2) from List.length_drop];done)|rfl|(simp;done)) ?_;(with_reducible refine (cH.calls _ _ (l0.drop 2) LZ _ ?aE ?aG A4.out).mono ?_);(case aE=>repeat (first|exact JM.out|(with_reducible refine Kd.fH ?_ _)|(with_reducible refine Kd.fz ?_ _)|(with_reducible refine Kd.gQ ?_)));(case aG=>exact JN.out);rintro e w' ⟨rfl,⟨nd,rfl⟩⟩;(try first|exact ⟨rfl,_,World.drewN_drewN _ _ _⟩|exact ⟨rfl,_,Eq.trans (World.drewN_drewN _ _ _) (congrArg (World.drewN _) (Nat.add_assoc _ _ _))⟩)))
  repeat (go_quiet (first|(go_at_call 87;(with_reducible refine (cH.calls _ _ l0 LY _ ?aE ?aG A2.out).mono ?_);(case aE=>repeat (first|exact gj.out|(with_reducible refine Kd.fH ?_ _)|(with_reducible refine Kd.fz ?_ _)|(with_reducible refine Kd.gQ ?_)));(case aG=>exact jx.out);rintro e w' ⟨rfl,⟨nd,rfl⟩⟩;(try first|exact ⟨rfl,_,World.drewN_drewN _ _ _⟩|exact ⟨rfl,_,Eq.trans (World.drewN_drewN _ _ _) (congrArg (World.drewN _) (Nat.add_assoc _ _ _))⟩);obtain ⟨i05,JK,_,JL,_⟩:=info_parts fY;obtain ⟨A5,YH,YI,YJ⟩:=fS (P:=Try.prog) (Value.int .u8) 0 23 5 .i64 Try.underlying23 JK JL A0 c0 l0 2 (by omega) gA jx.out;have JM:=aa.mk (Kd.dH (h1:=fun _=>rfl) (YI _ (Kd.dw gj.out)));have JN:=aa.mk YJ;clear YI YJ JK JL)|(go_at_call 87;refine ug (args':= #[.slice A5 (l0.drop 2).length (c0 - 2)]) (by first|(rw [show (l0.drop 2).length=(l0.length - 2) from List.length_drop];done)|rfl|(simp;done)) ?_;(with_reducible refine (cH.calls _ _ (l0.drop 2) LZ _ ?aE ?aG A4.out).mono ?_);(case aE=>repeat (first|exact JM.out|(with_reducible refine Kd.fH ?_ _)|(with_reducible refine Kd.fz ?_ _)|(with_reducible refine Kd.gQ ?_)));(case aG=>exact JN.out);rintro e w' ⟨rfl,⟨nd,rfl⟩⟩;(try first|exact ⟨rfl,_,World.drewN_drewN _ _ _⟩|exact ⟨rfl,_,Eq.trans (World.drewN_drewN _ _ _) (congrArg (World.drewN _) (Nat.add_assoc _ _ _))⟩)));try go_wp2_with (first|(go_at_call 87;(with_reducible refine (cH.calls _ _ l0 LY _ ?aE ?aG A2.out).mono ?_);(case aE=>repeat (first|exact gj.out|(with_reducible refine Kd.fH ?_ _)|(with_reducible refine Kd.fz ?_ _)|(with_reducible refine Kd.gQ ?_)));(case aG=>exact jx.out);rintro e w' ⟨rfl,⟨nd,rfl⟩⟩;(try first|exact ⟨rfl,_,World.drewN_drewN _ _ _⟩|exact ⟨rfl,_,Eq.trans (World.drewN_drewN _ _ _) (congrArg (World.drewN _) (Nat.add_assoc _ _ _))⟩);obtain ⟨i05,JK,_,JL,_⟩:=info_parts fY;obtain ⟨A5,YH,YI,YJ⟩:=fS (P:=Try.prog) (Value.int .u8) 0 23 5 .i64 Try.underlying23 JK JL A0 c0 l0 2 (by omega) gA jx.out;have JM:=aa.mk (Kd.dH (h1:=fun _=>rfl) (YI _ (Kd.dw gj.out)));have JN:=aa.mk YJ;clear YI YJ JK JL)|(go_at_call 87;refine ug (args':= #[.slice A5 (l0.drop 2).length (c0 - 2)]) (by first|(rw [show (l0.drop 2).length=(l0.length - 2) from List.length_drop];done)|rfl|(simp;done)) ?_;(with_reducible refine (cH.calls _ _ (l0.drop 2) LZ _ ?aE ?aG A4.out).mono ?_);(case aE=>repeat (first|exact JM.out|(with_reducible refine Kd.fH ?_ _)|(with_reducible refine Kd.fz ?_ _)|(with_reducible refine Kd.gQ ?_)));(case aG=>exact JN.out);rintro e w' ⟨rfl,⟨nd,rfl⟩⟩;(try first|exact ⟨rfl,_,World.drewN_drewN _ _ _⟩|exact ⟨rfl,_,Eq.trans (World.drewN_drewN _ _ _) (congrArg (World.drewN _) (Nat.add_assoc _ _ _))⟩))))
  go_ret
  exact ⟨by first|rfl|(simp;done)|(simp [*];done),by repeat (first|exact bB.refl _|apply bB.step)⟩
 rw [av c3] at H
 cases H
end Go.Proofs.Ytkmimamminddiaa.PB
