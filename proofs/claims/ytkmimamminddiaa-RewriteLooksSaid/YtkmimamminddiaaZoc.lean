/- Texts of this claim, merged: PBx15, PBx6, PBx19, PBx20, PBx42, PBx2, PBx43, PBx44, PBx45, PBx46, PBx47, PBx48, PBx49, PBx52. -/
import Derived.Test.YtkmimamminddiaaZob
set_option maxHeartbeats 40000000
set_option maxRecDepth 100000
set_option linter.unusedVariables false
set_option linter.unusedSimpArgs false
namespace Go.Proofs.Ytkmimamminddiaa.PB
open Go.RowKit Go.Proofs.YtkmimamminddiaaW.PrintWords Go.Proofs.YtkmimamminddiaaW.PrintLast Go.Proofs.YtkmimamminddiaaW.PrintMore
attribute [local go_sem] dV dW gI gJ dG dH dX dY
theorem dL.Nu {P:Program} {ops:Array Oper} {Q:Exit ->Act ->World ->Prop} {rest:List Oper} {oi:Oper} {a:Act} {w:World} (N:Option Tmp) (_hd:oi.dst=N) (hg:oi.guard=none) {f:FuncId} {fn:Func} {as_:Array Operand} {ts:Array TypeId} (hf:P.funcs[f]?=some fn) (hname:(fn.name== "runtime.NumGoroutine")=false) (hb:fn.body.isSome=true) (args:Array Value)
  (hop:oi.op= .call {callee:= .value (.func f),args:=as_,argTypes:=ts}) (hargs:as_.map a.eval=args)
  (h:Calls P f args w fun e w'=>∃ ch,e= .panicked ch /\ Q (.panic ch) a w'):wpList P ops Q (oi::rest) a w:=by
 refine wpList_plain hg fun K hK=> ?_
 have he:=Om hf hname hb args w
 have hrun:(execOp a.eval oi).run P w= .ok (.enter f args) w:=by
  unfold execOp
  simp [hop,resolve,Deferred.ofValue,invoke,Act.eval,hargs,he]
 unfold Oper.wp;rw [hrun,Oper.upon_enter];refine h.mono fun e w'' hh=> ?_
 obtain ⟨ch,rfl,hk⟩:=hh;exact hk
theorem fB.panics (a0:Bool) (a1:Int) (w:World) (h:a0=false):Calls Try.prog 117 #[.bool a0,.int .i64 a1] w fun e w'=>e= .panicked [{v:= .iface 163 (.agg #[.int .i64 a1]),recovered:=false}] /\ bf w w':=by
 subst h;have Amr:=Try.underlying163
 go_enter Try.func117,Try.ntmps117
 go_wp2
 exact ⟨rfl,rfl,by repeat (first|exact bf.refl _|apply bf.step)⟩
def dL.T5:Bool×List (List Nat×List Nat):=(true,[([],[]),([],[]),([1],[1]),([0,0],[0]),([2,3,0,1,2,3],[2])])
def dL.B5:List Nat:=[0,0,2,1,15]
theorem dL.AtA:rtab .any (opsOf Try.f94 5)=dL.T5:=by kernel_rfl
theorem dL.Ams:waitsOk dL.T5.2 dL.B5=true:=by kernel_rfl
theorem dL.ZN (x:Int) (w:World):(Instr.typeAssert (.iface 163 (.agg #[.int .i64 x])) 20 163 true).run Try.prog w= .ok (.tuple #[.agg #[.int .i64 x],.bool true]) w:=by kernel_rfl
theorem dL.catch_panicking (x:Int) (w0 w:World) (B gp ge:Nat) (hp:w.heap[gp]?=some (.cells #[.int .u8 0,.int .u8 0,.int .u8 0,.int .u16 0,.int .u8 0,.int .u16 0,.int .u32 0,.int .u32 0,.slice none 0 0,.slice none 0 0] 73 (0,0)))
  (he:w.heap[ge]?=some (.cells #[.int .i64 0] 49 (0,0))) (hne:gp≠ge) (hB:Below B w0 w) (hBp:B<=gp) (hBe:B<=ge):
  CallsD Try.prog 94 #[.pointer (some ⟨gp,0,none⟩),.pointer (some ⟨ge,0,none⟩)] (.panicking [{v:= .iface 163 (.agg #[.int .i64 x]),recovered:=false}]) w fun e u' w'=>
   e= .returned (.tuple #[]) /\ u'= .panicking [{v:= .iface 163 (.agg #[.int .i64 x]),recovered:=true}] /\
   w'.heap[gp]?=some (.cells #[.int .u8 0,.int .u8 0,.int .u8 0,.int .u16 0,.int .u8 0,.int .u16 0,.int .u32 0,.int .u32 0,.slice none 0 0,.slice none 0 0] 73 (0,0)) /\
   w'.heap[ge]?=some (.cells #[.int .i64 x] 49 (0,0)) /\ Below B w0 w':=by
 have HP:=Aside0.mk hp;have HE:=Aside0.mk he;have HN:=Aside0.mk hne;have HB:=Aside0.mk hB;have ZO:=Aside0.mk hBp;have HBE:=Aside0.mk hBe;clear hp he hne hB hBp hBe;have Xu:=Try.underlying73;have Amr:=Try.underlying163;have hneq:∀ (v:Value) (w:World),(binOp BinOp.neq 20 (.iface 163 v) .nilIface).run Try.prog w= .ok (.bool true) w:=fun _ _=>by kernel_rfl
 have hta:=dL.ZN x;refine callsD_of_wpS Try.func94 rfl fun c₀ cs hu=> ?_
 simp only [Try.ntmps94,List.size_toArray,List.length_cons,List.length_nil,Nat.reduceAdd,Nat.reduceSub,Array.replicate_succ,Array.replicate_zero,List.push_toArray,List.append_toArray,List.nil_append,List.cons_append]
 apply wpS_seq
 apply wpS_region
 simp [wpOpsS,go_sem,recoverD,hu,Try.ntmps94,Exit.thenS]
 apply wpS_seq
 apply wpS_region
 simp [wpOpsS,go_sem,Exit.thenS]
 refine wpS_cond (t:=true) (by simp [Act.eval,Array.replicate]) ?_;simp only [if_true];refine wpS_of_wp ?_
 go_upto_region 5 with (fail)
 have hf:(w.alloc (.cells #[.int .i64 x] 163)).drew.cell? ⟨w.heap.size,0,none⟩=some (.int .i64 x):=by go_simp
 refine start_ (n:=5) (S:=fun w'=>w'.cell? ⟨w.heap.size,0,none⟩=some (.int .i64 x)) (ds:=[]) #[false,false,false,false,false] (by kernel_rfl) rfl rfl hf (fun hHeld=> ?_);refine with_tabW dL.AtA dL.Ams (fun HT_ HW_=> ?_);have Amt:w.heap.size≠gp:=fun e=>by have:=qG HP.out;omega
 have Ae9:w.heap.size≠ge:=fun e=>by have:=qG HE.out;omega
 have J9:=Aside0.mk (az (aG HP.out (.cells #[.int .i64 x] 163)));have HE1:=Aside0.mk (az (aG HE.out (.cells #[.int .i64 x] 163)));have HB1:Aside0 (Below B w0 (w.alloc (.cells #[.int .i64 x] 163)).drew):=⟨yJ (Below.alloc HB.out (by have:=qG HP.out;have:=ZO.out;omega) _)⟩
 have ZP:=Aside0.mk Amt;have HG2:=Aside0.mk Ae9;clear HP HE HB Amt Ae9 hf;generalize (w.alloc (.cells #[.int .i64 x] 163)).drew=wc at J9 HE1 HB1 hHeld|-
 generalize w.heap.size=gf at ZP HG2 hHeld HT_ HW_|-
 refine pz 0 16 HT_ ?_;refine pz 1 17 HT_ ?_;refine tz 2 18 HT_ HW_ hHeld ?_;have Xv:Aside0 (ge≠gp):=⟨fun e=>HN.out e.symm⟩
 refine oz 3 (none) HT_ (fun K hK=> ?_);have hs0:=cz J9.out 0 rfl;have Uf:=blk_frozen J9.out 0;have hs1:=cz J9.out 1 rfl;have Ah8:=blk_frozen J9.out 1;have hs2:=cz J9.out 2 rfl;have Ah9:=blk_frozen J9.out 2;have hs3:=cz J9.out 3 rfl;have Aid:=blk_frozen J9.out 3;have hs4:=cz J9.out 4 rfl;have Aie:=blk_frozen J9.out 4;have hs5:=cz J9.out 5 rfl;have Aif:=blk_frozen J9.out 5;have hs6:=cz J9.out 6 rfl;have Aig:=blk_frozen J9.out 6;have hs7:=cz J9.out 7 rfl;have Aih:=blk_frozen J9.out 7;have hs8:=cz J9.out 8 rfl;have Aii:=blk_frozen J9.out 8;have hs9:=cz J9.out 9 rfl;have Aij:=blk_frozen J9.out 9
 refine CJ (w1:=((((((((((wc.setCell ⟨gp,0,none⟩ (.int .u8 0)).setCell ⟨gp,1,none⟩ (.int .u8 0)).setCell ⟨gp,2,none⟩ (.int .u8 0)).setCell ⟨gp,3,none⟩ (.int .u16 0)).setCell ⟨gp,4,none⟩ (.int .u8 0)).setCell ⟨gp,5,none⟩ (.int .u16 0)).setCell ⟨gp,6,none⟩ (.int .u32 0)).setCell ⟨gp,7,none⟩ (.int .u32 0)).setCell ⟨gp,8,none⟩ (.slice none 0 0)).setCell ⟨gp,9,none⟩ (.slice none 0 0))) (by rfl) rfl ?_ ?_
 ·go_simp
 have f1:=Aside0.mk ((cell_far (W:=(((((((((wc.setCell ⟨gp,0,none⟩ (.int .u8 0)).setCell ⟨gp,1,none⟩ (.int .u8 0)).setCell ⟨gp,2,none⟩ (.int .u8 0)).setCell ⟨gp,3,none⟩ (.int .u16 0)).setCell ⟨gp,4,none⟩ (.int .u8 0)).setCell ⟨gp,5,none⟩ (.int .u16 0)).setCell ⟨gp,6,none⟩ (.int .u32 0)).setCell ⟨gp,7,none⟩ (.int .u32 0)).setCell ⟨gp,8,none⟩ (.slice none 0 0))) (p:=⟨gp,9,none⟩) ZP.out (.slice none 0 0)).trans ((cell_far (W:=((((((((wc.setCell ⟨gp,0,none⟩ (.int .u8 0)).setCell ⟨gp,1,none⟩ (.int .u8 0)).setCell ⟨gp,2,none⟩ (.int .u8 0)).setCell ⟨gp,3,none⟩ (.int .u16 0)).setCell ⟨gp,4,none⟩ (.int .u8 0)).setCell ⟨gp,5,none⟩ (.int .u16 0)).setCell ⟨gp,6,none⟩ (.int .u32 0)).setCell ⟨gp,7,none⟩ (.int .u32 0))) (p:=⟨gp,8,none⟩) ZP.out (.slice none 0 0)).trans ((cell_far (W:=(((((((wc.setCell ⟨gp,0,none⟩ (.int .u8 0)).setCell ⟨gp,1,none⟩ (.int .u8 0)).setCell ⟨gp,2,none⟩ (.int .u8 0)).setCell ⟨gp,3,none⟩ (.int .u16 0)).setCell ⟨gp,4,none⟩ (.int .u8 0)).setCell ⟨gp,5,none⟩ (.int .u16 0)).setCell ⟨gp,6,none⟩ (.int .u32 0))) (p:=⟨gp,7,none⟩) ZP.out (.int .u32 0)).trans ((cell_far (W:=((((((wc.setCell ⟨gp,0,none⟩ (.int .u8 0)).setCell ⟨gp,1,none⟩ (.int .u8 0)).setCell ⟨gp,2,none⟩ (.int .u8 0)).setCell ⟨gp,3,none⟩ (.int .u16 0)).setCell ⟨gp,4,none⟩ (.int .u8 0)).setCell ⟨gp,5,none⟩ (.int .u16 0))) (p:=⟨gp,6,none⟩) ZP.out (.int .u32 0)).trans ((cell_far (W:=(((((wc.setCell ⟨gp,0,none⟩ (.int .u8 0)).setCell ⟨gp,1,none⟩ (.int .u8 0)).setCell ⟨gp,2,none⟩ (.int .u8 0)).setCell ⟨gp,3,none⟩ (.int .u16 0)).setCell ⟨gp,4,none⟩ (.int .u8 0))) (p:=⟨gp,5,none⟩) ZP.out (.int .u16 0)).trans ((cell_far (W:=((((wc.setCell ⟨gp,0,none⟩ (.int .u8 0)).setCell ⟨gp,1,none⟩ (.int .u8 0)).setCell ⟨gp,2,none⟩ (.int .u8 0)).setCell ⟨gp,3,none⟩ (.int .u16 0))) (p:=⟨gp,4,none⟩) ZP.out (.int .u8 0)).trans ((cell_far (W:=(((wc.setCell ⟨gp,0,none⟩ (.int .u8 0)).setCell ⟨gp,1,none⟩ (.int .u8 0)).setCell ⟨gp,2,none⟩ (.int .u8 0))) (p:=⟨gp,3,none⟩) ZP.out (.int .u16 0)).trans ((cell_far (W:=((wc.setCell ⟨gp,0,none⟩ (.int .u8 0)).setCell ⟨gp,1,none⟩ (.int .u8 0))) (p:=⟨gp,2,none⟩) ZP.out (.int .u8 0)).trans ((cell_far (W:=(wc.setCell ⟨gp,0,none⟩ (.int .u8 0))) (p:=⟨gp,1,none⟩) ZP.out (.int .u8 0)).trans ((cell_far (W:=wc) (p:=⟨gp,0,none⟩) ZP.out (.int .u8 0)).trans hHeld))))))))))
 have f2:=Aside0.mk (bH (bH (bH (bH (bH (bH (bH (bH (bH (bH J9.out 0 (.int .u8 0) rfl) 1 (.int .u8 0) rfl) 2 (.int .u8 0) rfl) 3 (.int .u16 0) rfl) 4 (.int .u8 0) rfl) 5 (.int .u16 0) rfl) 6 (.int .u32 0) rfl) 7 (.int .u32 0) rfl) 8 (.slice none 0 0) rfl) 9 (.slice none 0 0) rfl);have f3:=Aside0.mk (lS (lS (lS (lS (lS (lS (lS (lS (lS (lS HE1.out (p:=⟨gp,0,none⟩) Xv.out (.int .u8 0)) (p:=⟨gp,1,none⟩) Xv.out (.int .u8 0)) (p:=⟨gp,2,none⟩) Xv.out (.int .u8 0)) (p:=⟨gp,3,none⟩) Xv.out (.int .u16 0)) (p:=⟨gp,4,none⟩) Xv.out (.int .u8 0)) (p:=⟨gp,5,none⟩) Xv.out (.int .u16 0)) (p:=⟨gp,6,none⟩) Xv.out (.int .u32 0)) (p:=⟨gp,7,none⟩) Xv.out (.int .u32 0)) (p:=⟨gp,8,none⟩) Xv.out (.slice none 0 0)) (p:=⟨gp,9,none⟩) Xv.out (.slice none 0 0))
 have f4:=Aside0.mk (Below.setCell (p:=⟨gp,9,none⟩) (Below.setCell (p:=⟨gp,8,none⟩) (Below.setCell (p:=⟨gp,7,none⟩) (Below.setCell (p:=⟨gp,6,none⟩) (Below.setCell (p:=⟨gp,5,none⟩) (Below.setCell (p:=⟨gp,4,none⟩) (Below.setCell (p:=⟨gp,3,none⟩) (Below.setCell (p:=⟨gp,2,none⟩) (Below.setCell (p:=⟨gp,1,none⟩) (Below.setCell (p:=⟨gp,0,none⟩) HB1.out ZO.out (.int .u8 0)) ZO.out (.int .u8 0)) ZO.out (.int .u8 0)) ZO.out (.int .u16 0)) ZO.out (.int .u8 0)) ZO.out (.int .u16 0)) ZO.out (.int .u32 0)) ZO.out (.int .u32 0)) ZO.out (.slice none 0 0)) ZO.out (.slice none 0 0));clear hs0 hs1 hs2 hs3 hs4 hs5 hs6 hs7 hs8 hs9 Uf Ah8 Ah9 Aid Aie Aif Aig Aih Aii Aij
 generalize ((((((((((wc.setCell ⟨gp,0,none⟩ (.int .u8 0)).setCell ⟨gp,1,none⟩ (.int .u8 0)).setCell ⟨gp,2,none⟩ (.int .u8 0)).setCell ⟨gp,3,none⟩ (.int .u16 0)).setCell ⟨gp,4,none⟩ (.int .u8 0)).setCell ⟨gp,5,none⟩ (.int .u16 0)).setCell ⟨gp,6,none⟩ (.int .u32 0)).setCell ⟨gp,7,none⟩ (.int .u32 0)).setCell ⟨gp,8,none⟩ (.slice none 0 0)).setCell ⟨gp,9,none⟩ (.slice none 0 0))=wd at f1 f2 f3 f4|-
 clear J9 HE1 HB1 hHeld;refine hK.out _ _ f1.out (fun hHeld=> ?_);clear hK K;refine oz 4 (none) HT_ (fun K hK=> ?_);have he0:=cz f3.out 0 rfl;have AtC:=blk_frozen f3.out 0;refine CJ (w1:=wd.setCell ⟨ge,0,none⟩ (.int .i64 x)) (by rfl) rfl ?_ ?_
 ·go_simp
 clear he0 AtC;refine hK.out _ _ ((cell_far (W:=wd) (p:=⟨ge,0,none⟩) HG2.out (.int .i64 x)).trans hHeld) (fun hHeld=> ?_);clear hK K;refine dz HT_ ?_;have g1:(wd.setCell ⟨ge,0,none⟩ (.int .i64 x)).heap[gp]?=_:=lS f2.out (p:=⟨ge,0,none⟩) HN.out (.int .i64 x);have g2:(wd.setCell ⟨ge,0,none⟩ (.int .i64 x)).heap[ge]?=_:=bH f3.out 0 (.int .i64 x) rfl;have g3:=Below.setCell (p:=⟨ge,0,none⟩) f4.out HBE.out (.int .i64 x);clear hneq hta Xu Amr;exact ⟨rfl,_,rfl,.tuple #[],by simp [results,Try.results94],rfl,rfl,g1,g2,g3⟩
theorem dL.catch_idle (p q:Addr) (w:World):CallsD Try.prog 94 #[.pointer (some p),.pointer (some q)] .returning w fun e u' w'=>e= .returned (.tuple #[]) /\ u'= .returning /\ w'=w:=by
 have hneq:∀ (w:World),(binOp BinOp.neq 20 .nilIface .nilIface).run Try.prog w= .ok (.bool false) w:=fun _=>by kernel_rfl
 refine callsD_of_wpS Try.func94 rfl fun c₀ cs hu=> ?_
 simp only [Try.ntmps94,List.size_toArray,List.length_cons,List.length_nil,Nat.reduceAdd,Nat.reduceSub,Array.replicate_succ,Array.replicate_zero,List.push_toArray,List.append_toArray,List.nil_append,List.cons_append]
 apply wpS_seq
 apply wpS_region
 simp [wpOpsS,go_sem,recoverD,hu,Exit.thenS]
 apply wpS_seq
 apply wpS_region
 simp [wpOpsS,go_sem,Exit.thenS,hneq]
 refine wpS_cond (t:=false) (by simp [Act.eval]) ?_;simp only [Bool.false_eq_true,if_false];refine wpS_of_wp (wp_skip ?_)
 cases c₀
 simp_all [bodyPostS,results,Try.results94]
theorem aQ.AtD (A0:Option Addr) (c0:Nat) (l0:List Int) (w:World) (hr0:Kd.C (Kd.int .u8) w A0 l0.length l0) (hc0:l0.length<=c0) (h:(l0.length:Int)<20):
  Calls Try.prog 95 #[.slice A0 l0.length c0] w fun e w'=>e= .panicked [{v:= .iface 163 (.agg #[.int .i64 20]),recovered:=false}] /\ Below w.heap.size w w':=by
 have Xu:=Try.underlying73;have HR0:=Aside0.mk hr0;have mg:=Aside0.mk hc0;clear hr0 hc0;have HB:=jy w;have hd_:decide ((l0.length:Int)>=20)=false:=jC (by omega);have HD:=Aside0.mk hd_;clear hd_ h
 go_enter Try.func95,Try.ntmps95
 go_wp2_with (first|((with_reducible refine gate_dst (N:=2) rfl ?_);refine box_event ?hg (N:=2) ?hd (cs:= #[.int .u8 0,.int .u8 0,.int .u8 0,.int .u16 0,.int .u8 0,.int .u16 0,.int .u32 0,.int .u32 0,.slice none 0 0,.slice none 0 0]) (t:=73) ?hr ?_;(case hd=>rfl);(case hg=>rfl);(case hr=>first|(go_simp;done)|(go_simp;rfl));intro gU hg w6 hbox hb;have ay:=Aside0.mk (ag (bz HB) hb);have aC:=Aside0.mk (hbox);have bg:=Aside0.mk ((by rw [hg];exact (below_size (bz HB)):w.heap.size<=gU));have dm:=Aside0.mk ((by rw [hg];exact (below_size (bz HB)):w.heap.size<=gU));clear HB;have HB:=ay;have gW:=aC;have iU:=bg;have VL:=dm;clear ay aC bg dm;clear hb hbox hg)|((with_reducible refine ai (f:=117) rfl ?_);refine dL.Nu (some 9) rfl rfl Try.func117 (by kernel_rfl) rfl #[.bool (decide ((l0.length:Int)>=20)),.int .i64 20] rfl (by (try simp only [List.map_toArray,List.map_cons,List.map_nil]);first|done|rfl|(simp only [List.length_drop,List.length_take];rfl)|(go_simp;done)|(simp [Act.eval,IntKind.signed];done)|(simp [Act.eval,IntKind.signed];rfl)) ?_;(with_reducible refine (fB.panics (decide ((l0.length:Int)>=20)) 20 _ HD.out).mono ?_);rintro e w' ⟨rfl,⟨nd,rfl⟩⟩;refine ⟨_,rfl, ?_⟩;exact ⟨rfl,rfl,bz HB⟩))
theorem aQ.AtE (wB:Int) (A0:Option Addr) (c0:Nat) (l0:List Int) (w:World) (hr0:Kd.C (Kd.int .u8) w A0 l0.length l0) (hc0:l0.length<=c0) (hlen:(l0.length:Int)>=20) (h2:dQ.f l0 2=some wB) (hf:¬ ((rd l0 0) / 16=4 /\ (wrap64 (4*(wrap64 (Go.bits .and .u8 (rd l0 0) 15))))>=20 /\ (wrap64 (wB))>=(wrap64 (4*(wrap64 (Go.bits .and .u8 (rd l0 0) 15)))))):
  Calls Try.prog 95 #[.slice A0 l0.length c0] w fun e w'=>e= .panicked [{v:= .iface 163 (.agg #[.int .i64 21]),recovered:=false}] /\ Below w.heap.size w w':=by
 have Xu:=Try.underlying73;have HR0:=Aside0.mk hr0;have mg:=Aside0.mk hc0;clear hr0 hc0;have HB:=jy w;have HF:=Aside0.mk hf;clear hf;have A2:Aside0 (fB.f (decide ((l0.length:Int)>=20)) 20=some ()):=⟨by unfold fB.f;rw [bJ hlen,ah rfl]⟩
 have A4:=Aside0.mk h2;have tY:decide (0<(l0.length:Int))=true:=bJ (by omega);have vI:decide (0<l0.length)=true:=bJ (by omega);clear hlen h2
 go_enter Try.func95,Try.ntmps95
 try go_wp2_with (first|((with_reducible refine gate_dst (N:=2) rfl ?_);refine box_event ?hg (N:=2) ?hd (cs:= #[.int .u8 0,.int .u8 0,.int .u8 0,.int .u16 0,.int .u8 0,.int .u16 0,.int .u32 0,.int .u32 0,.slice none 0 0,.slice none 0 0]) (t:=73) ?hr ?_;(case hd=>rfl);(case hg=>rfl);(case hr=>first|(go_simp;done)|(go_simp;rfl));intro gU hg w6 hbox hb;have ay:=Aside0.mk (ag (bz HB) hb);have aC:=Aside0.mk (hbox);have bg:=Aside0.mk ((by rw [hg];exact (below_size (bz HB)):w.heap.size<=gU));have dm:=Aside0.mk ((by rw [hg];exact (below_size (bz HB)):w.heap.size<=gU));clear HB;have HB:=ay;have gW:=aC;have iU:=bg;have VL:=dm;clear ay aC bg dm;clear hb hbox hg)|((with_reducible refine ai (f:=117) rfl ?_);refine gL 9 Try.func117 #[.bool (decide ((l0.length:Int)>=20)),.int .i64 20] ?_;(with_reducible refine (fB.calls (decide ((l0.length:Int)>=20)) 20 _ A2.out).mono ?_);rintro e w' ⟨rfl,⟨nd,rfl⟩⟩;refine ⟨_,rfl, ?_⟩))
 (try (rw [iC w6];generalize nO:World.drewN w6 _=w6;have ay:Aside0 (w6.heap[gU]?=some (.cells #[.int .u8 0,.int .u8 0,.int .u8 0,.int .u16 0,.int .u8 0,.int .u16 0,.int .u32 0,.int .u32 0,.slice none 0 0,.slice none 0 0] 73 (0,0))):=⟨by rw [<- nO];exact (kz gW)⟩;have aC:Aside0 (Below w.heap.size w w6):=⟨by rw [<- nO];exact bz HB⟩;clear gW HB nO;have gW:=ay;have HB:=aC;clear ay aC))
 have ay:=Aside0.mk (az gW.out);have aC:=Aside0.mk (below_drew1 HB.out);clear gW;clear HB;have gW:=ay;have HB:=aC;clear ay aC;have Ej:0<=(0:Int):=(by omega)
 have Em:0<(l0.length:Int):=je;obtain ⟨lI,e204,jD⟩:=Kd.dU HR0.out 0 Ej Em;have jG:=jD
 (try rw [show ((0:Int)).toNat=0 from rfl] at jG)
 (try rw [show 0*1=0 from rfl] at jG)
 (try rw [Addr.add_zero'] at jG)
 cases e204
 have Zy:(0<l0.length)=True:=eq_true (by omega)
 (try rw [show ((0:Int)).toNat=0 from rfl] at jD)
 (try rw [Addr.add_zero'] at jD)
 replace jD:=(HB.out.cell (dS w _ jD)).trans jD;replace Ej:=eq_true Ej;replace Em:=eq_true Em;refine start_ (n:=11) (S:=fun w'=>w'.cell? lI=some (.int .u8 (rd l0 0))) (ds:=[]) #[false,false,false,false,false,false,false,false,false,false,false] (by kernel_rfl) rfl rfl (((HB.out.cell (dS w _ jG)).trans jG)) (fun hHeld=> ?_);refine with_tabW aQ.AcM aQ.VK (fun HT_ HW_=> ?_);generalize w6.drew=w7 at gW HB jD hHeld|-
 refine pz 0 10 HT_ ?_;refine pz 1 11 HT_ ?_;refine pz 6 16 HT_ ?_;refine tz 2 12 HT_ HW_ hHeld ?_;refine pz 3 13 HT_ ?_;refine pz 4 14 HT_ ?_;refine pz 5 15 HT_ ?_;refine oz 7 (some 17) HT_ (fun K hK=> ?_);refine gG Try.func118 #[.slice (some lI) l0.length c0,.int .i64 2] ?_
 with_reducible refine (dQ.calls _ _ l0 2 wB _ ?au ?ax A4.out).mono ?_
 (case au=>exact Kd.aJ HR0.out (bz HB))
 (case ax=>exact mg.out)
 rintro e w' ⟨rfl,⟨nd,rfl⟩⟩;refine ⟨_,rfl, ?_⟩;refine hK.out _ _ (((HB.out.cell (dS w _ jG)).trans jG)) (fun hHeld=> ?_);clear hK K;refine nz 17 ?_;refine pz 8 18 HT_ ?_;refine pz 9 3 HT_ ?_;refine pz 10 4 HT_ ?_;refine dz HT_ ?_
 go_upto_region 3 with (fail)
 by_cases c8:((rd l0 0) / 16)=4
 ·have uf:(((rd l0 0) / 16)==4)=true:=jf c8
  have JW:(((rd l0 0) / 16) !=4)=false:=oM c8
  (first|rw [uf]|(simp only [i64_w,i32_w];rw [uf])|skip)
  by_cases c9:(wrap64 (4*(wrap64 (Go.bits .and .u8 (rd l0 0) 15))))>=20
  ·have CW:decide (20<=(wrap64 (4*(wrap64 (Go.bits .and .u8 (rd l0 0) 15)))))=true:=bJ c9
   have hd_:decide ((wrap64 (wB))>=(wrap64 (4*(wrap64 (Go.bits .and .u8 (rd l0 0) 15)))))=false:=jC (fun hx=>HF.out ⟨c8,c9,hx⟩);have HD:=Aside0.mk hd_;clear hd_ c8 c9;have uN:0<=(0:Int):=(by omega)
   have uO:0<(l0.length:Int):=je;obtain ⟨yO,e206,gK⟩:=Kd.dU HR0.out 0 uN uO;obtain rfl:lI=yO:=(by injection e206)
   have J5:(0<l0.length)=True:=eq_true (by omega)
   (try rw [show ((0:Int)).toNat=0 from rfl] at gK)
   (try rw [Addr.add_zero'] at gK)
   replace gK:=(HB.out.cell (dS w _ gK)).trans gK;replace uN:=eq_true uN;replace uO:=eq_true uO
   go_wp2_with (first|((with_reducible refine ai (f:=117) rfl ?_);refine dL.Nu (some 33) rfl rfl Try.func117 (by kernel_rfl) rfl #[.bool (decide ((wrap64 (wB))>=(wrap64 (4*(wrap64 (Go.bits .and .u8 (rd l0 0) 15)))))),.int .i64 21] rfl (by (try simp only [List.map_toArray,List.map_cons,List.map_nil]);first|done|rfl|(simp only [List.length_drop,List.length_take];rfl)|(go_simp;done)|(simp [Act.eval,IntKind.signed];done)|(simp [Act.eval,IntKind.signed];rfl)) ?_;(with_reducible refine (fB.panics (decide ((wrap64 (wB))>=(wrap64 (4*(wrap64 (Go.bits .and .u8 (rd l0 0) 15)))))) 21 _ HD.out).mono ?_);rintro e w' ⟨rfl,⟨nd,rfl⟩⟩;refine ⟨_,rfl, ?_⟩;exact ⟨rfl,rfl,bz HB⟩))
  ·have CW:decide (20<=(wrap64 (4*(wrap64 (Go.bits .and .u8 (rd l0 0) 15)))))=false:=jC c9
   clear c8 c9;have uN:0<=(0:Int):=(by omega)
   have uO:0<(l0.length:Int):=je;obtain ⟨yO,e206,gK⟩:=Kd.dU HR0.out 0 uN uO;obtain rfl:lI=yO:=(by injection e206)
   have J5:(0<l0.length)=True:=eq_true (by omega)
   (try rw [show ((0:Int)).toNat=0 from rfl] at gK)
   (try rw [Addr.add_zero'] at gK)
   replace gK:=(HB.out.cell (dS w _ gK)).trans gK;replace uN:=eq_true uN;replace uO:=eq_true uO
   go_wp2_with (first|((with_reducible refine ai (f:=117) rfl ?_);refine dL.Nu (some 33) rfl rfl Try.func117 (by kernel_rfl) rfl #[.bool false,.int .i64 21] rfl (by (try simp only [List.map_toArray,List.map_cons,List.map_nil]);first|done|rfl|(simp only [List.length_drop,List.length_take];rfl)|(go_simp;done)|(simp [Act.eval,IntKind.signed];done)|(simp [Act.eval,IntKind.signed];rfl)) ?_;(with_reducible refine (fB.panics false 21 _ rfl).mono ?_);rintro e w' ⟨rfl,⟨nd,rfl⟩⟩;refine ⟨_,rfl, ?_⟩;exact ⟨rfl,rfl,bz HB⟩))
 ·have uf:(((rd l0 0) / 16)==4)=false:=iM c8
  have JW:(((rd l0 0) / 16) !=4)=true:=pq c8
  (first|rw [uf]|(simp only [i64_w,i32_w];rw [uf])|skip)
  clear c8;have uN:0<=(0:Int):=(by omega)
  have uO:0<(l0.length:Int):=je;obtain ⟨yO,e206,gK⟩:=Kd.dU HR0.out 0 uN uO;obtain rfl:lI=yO:=(by injection e206)
  have J5:(0<l0.length)=True:=eq_true (by omega)
  (try rw [show ((0:Int)).toNat=0 from rfl] at gK)
  (try rw [Addr.add_zero'] at gK)
  replace gK:=(HB.out.cell (dS w _ gK)).trans gK;replace uN:=eq_true uN;replace uO:=eq_true uO
  go_wp2_with (first|((with_reducible refine ai (f:=117) rfl ?_);refine dL.Nu (some 33) rfl rfl Try.func117 (by kernel_rfl) rfl #[.bool false,.int .i64 21] rfl (by (try simp only [List.map_toArray,List.map_cons,List.map_nil]);first|done|rfl|(simp only [List.length_drop,List.length_take];rfl)|(go_simp;done)|(simp [Act.eval,IntKind.signed];done)|(simp [Act.eval,IntKind.signed];rfl)) ?_;(with_reducible refine (fB.panics false 21 _ rfl).mono ?_);rintro e w' ⟨rfl,⟨nd,rfl⟩⟩;refine ⟨_,rfl, ?_⟩;exact ⟨rfl,rfl,bz HB⟩))
theorem aQ.AtF (wB:Int) (A0:Option Addr) (c0:Nat) (l0:List Int) (w:World) (hr0:Kd.C (Kd.int .u8) w A0 l0.length l0) (hc0:l0.length<=c0) (hlen:(l0.length:Int)>=20) (h2:dQ.f l0 2=some wB) (hf:(rd l0 0) / 16=4 /\ (wrap64 (4*(wrap64 (Go.bits .and .u8 (rd l0 0) 15))))>=20 /\ (wrap64 (wB))>=(wrap64 (4*(wrap64 (Go.bits .and .u8 (rd l0 0) 15))))) (hs:(l0.length:Int)<(wrap64 (wB))):
  Calls Try.prog 95 #[.slice A0 l0.length c0] w fun e w'=>e= .panicked [{v:= .iface 163 (.agg #[.int .i64 20]),recovered:=false}] /\ Below w.heap.size w w':=by
 have Xu:=Try.underlying73;have HR0:=Aside0.mk hr0;have mg:=Aside0.mk hc0;clear hr0 hc0;have HB:=jy w;have hd_:decide ((l0.length:Int)>=(wrap64 (wB)))=false:=jC (by omega);have HD:=Aside0.mk hd_;clear hd_ hs;have Ue:Aside0 (fB.f (decide ((wrap64 (wB))>=(wrap64 (4*(wrap64 (Go.bits .and .u8 (rd l0 0) 15)))))) 21=some ()):=⟨by unfold fB.f;rw [bJ hf.2.2,ah rfl]⟩
 have uf:(((rd l0 0) / 16)==4)=true:=jf hf.1;have JW:(((rd l0 0) / 16) !=4)=false:=oM hf.1;have CW:decide (20<=(wrap64 (4*(wrap64 (Go.bits .and .u8 (rd l0 0) 15)))))=true:=bJ hf.2.1;clear hf;have A2:Aside0 (fB.f (decide ((l0.length:Int)>=20)) 20=some ()):=⟨by unfold fB.f;rw [bJ hlen,ah rfl]⟩
 have A4:=Aside0.mk h2;have tY:decide (0<(l0.length:Int))=true:=bJ (by omega);have vI:decide (0<l0.length)=true:=bJ (by omega);clear hlen h2
 go_enter Try.func95,Try.ntmps95
 try go_wp2_with (first|((with_reducible refine gate_dst (N:=2) rfl ?_);refine box_event ?hg (N:=2) ?hd (cs:= #[.int .u8 0,.int .u8 0,.int .u8 0,.int .u16 0,.int .u8 0,.int .u16 0,.int .u32 0,.int .u32 0,.slice none 0 0,.slice none 0 0]) (t:=73) ?hr ?_;(case hd=>rfl);(case hg=>rfl);(case hr=>first|(go_simp;done)|(go_simp;rfl));intro gU hg w6 hbox hb;have ay:=Aside0.mk (ag (bz HB) hb);have aC:=Aside0.mk (hbox);have bg:=Aside0.mk ((by rw [hg];exact (below_size (bz HB)):w.heap.size<=gU));have dm:=Aside0.mk ((by rw [hg];exact (below_size (bz HB)):w.heap.size<=gU));clear HB;have HB:=ay;have gW:=aC;have iU:=bg;have VL:=dm;clear ay aC bg dm;clear hb hbox hg)|((with_reducible refine ai (f:=117) rfl ?_);refine gL 9 Try.func117 #[.bool (decide ((l0.length:Int)>=20)),.int .i64 20] ?_;(with_reducible refine (fB.calls (decide ((l0.length:Int)>=20)) 20 _ A2.out).mono ?_);rintro e w' ⟨rfl,⟨nd,rfl⟩⟩;refine ⟨_,rfl, ?_⟩))
 (try (rw [iC w6];generalize nO:World.drewN w6 _=w6;have ay:Aside0 (w6.heap[gU]?=some (.cells #[.int .u8 0,.int .u8 0,.int .u8 0,.int .u16 0,.int .u8 0,.int .u16 0,.int .u32 0,.int .u32 0,.slice none 0 0,.slice none 0 0] 73 (0,0))):=⟨by rw [<- nO];exact (kz gW)⟩;have aC:Aside0 (Below w.heap.size w w6):=⟨by rw [<- nO];exact bz HB⟩;clear gW HB nO;have gW:=ay;have HB:=aC;clear ay aC))
 have ay:=Aside0.mk (az gW.out);have aC:=Aside0.mk (below_drew1 HB.out);clear gW;clear HB;have gW:=ay;have HB:=aC;clear ay aC;have Ej:0<=(0:Int):=(by omega)
 have Em:0<(l0.length:Int):=je;obtain ⟨lI,e204,jD⟩:=Kd.dU HR0.out 0 Ej Em;have jG:=jD
 (try rw [show ((0:Int)).toNat=0 from rfl] at jG)
 (try rw [show 0*1=0 from rfl] at jG)
 (try rw [Addr.add_zero'] at jG)
 cases e204
 have Zy:(0<l0.length)=True:=eq_true (by omega)
 (try rw [show ((0:Int)).toNat=0 from rfl] at jD)
 (try rw [Addr.add_zero'] at jD)
 replace jD:=(HB.out.cell (dS w _ jD)).trans jD;replace Ej:=eq_true Ej;replace Em:=eq_true Em;refine start_ (n:=11) (S:=fun w'=>w'.cell? lI=some (.int .u8 (rd l0 0))) (ds:=[]) #[false,false,false,false,false,false,false,false,false,false,false] (by kernel_rfl) rfl rfl (((HB.out.cell (dS w _ jG)).trans jG)) (fun hHeld=> ?_);refine with_tabW aQ.AcM aQ.VK (fun HT_ HW_=> ?_);generalize w6.drew=w7 at gW HB jD hHeld|-
 refine pz 0 10 HT_ ?_;refine pz 1 11 HT_ ?_;refine pz 6 16 HT_ ?_;refine tz 2 12 HT_ HW_ hHeld ?_;refine pz 3 13 HT_ ?_;refine pz 4 14 HT_ ?_;refine pz 5 15 HT_ ?_;refine oz 7 (some 17) HT_ (fun K hK=> ?_);refine gG Try.func118 #[.slice (some lI) l0.length c0,.int .i64 2] ?_
 with_reducible refine (dQ.calls _ _ l0 2 wB _ ?au ?ax A4.out).mono ?_
 (case au=>exact Kd.aJ HR0.out (bz HB))
 (case ax=>exact mg.out)
 rintro e w' ⟨rfl,⟨nd,rfl⟩⟩;refine ⟨_,rfl, ?_⟩;refine hK.out _ _ (((HB.out.cell (dS w _ jG)).trans jG)) (fun hHeld=> ?_);clear hK K;refine nz 17 ?_;refine pz 8 18 HT_ ?_;refine pz 9 3 HT_ ?_;refine pz 10 4 HT_ ?_;refine dz HT_ ?_
 go_upto_region 3 with (fail)
 (first|rw [uf]|(simp only [i64_w,i32_w];rw [uf])|skip)
 have uN:0<=(0:Int):=(by omega)
 have uO:0<(l0.length:Int):=je;obtain ⟨yO,e206,gK⟩:=Kd.dU HR0.out 0 uN uO;obtain rfl:lI=yO:=(by injection e206)
 have J5:(0<l0.length)=True:=eq_true (by omega)
 (try rw [show ((0:Int)).toNat=0 from rfl] at gK)
 (try rw [Addr.add_zero'] at gK)
 replace gK:=(HB.out.cell (dS w _ gK)).trans gK;replace uN:=eq_true uN;replace uO:=eq_true uO
 go_wp2_with (first|((with_reducible refine ai (f:=117) rfl ?_);refine gL 33 Try.func117 #[.bool (decide ((wrap64 (wB))>=(wrap64 (4*(wrap64 (Go.bits .and .u8 (rd l0 0) 15)))))),.int .i64 21] ?_;(with_reducible refine (fB.calls (decide ((wrap64 (wB))>=(wrap64 (4*(wrap64 (Go.bits .and .u8 (rd l0 0) 15)))))) 21 _ Ue.out).mono ?_);rintro e w' ⟨rfl,⟨nd,rfl⟩⟩;refine ⟨_,rfl, ?_⟩)|((with_reducible refine ai (f:=117) rfl ?_);refine dL.Nu (some 38) rfl rfl Try.func117 (by kernel_rfl) rfl #[.bool (decide ((l0.length:Int)>=(wrap64 (wB)))),.int .i64 20] rfl (by (try simp only [List.map_toArray,List.map_cons,List.map_nil]);first|done|rfl|(simp only [List.length_drop,List.length_take];rfl)|(go_simp;done)|(simp [Act.eval,IntKind.signed];done)|(simp [Act.eval,IntKind.signed];rfl)) ?_;(with_reducible refine (fB.panics (decide ((l0.length:Int)>=(wrap64 (wB)))) 20 _ HD.out).mono ?_);rintro e w' ⟨rfl,⟨nd,rfl⟩⟩;refine ⟨_,rfl, ?_⟩;exact ⟨rfl,rfl,bz HB⟩))
theorem aQ.AtG (k:Nat) (wB t124 Xw:Int) (A0:Option Addr) (c0:Nat) (l0:List Int) (w:World) (hr0:Kd.C (Kd.int .u8) w A0 l0.length l0) (hc0:l0.length<=c0) (hlen:(l0.length:Int)>=20) (h2:dQ.f l0 2=some wB) (hf:(rd l0 0) / 16=4 /\ (wrap64 (4*(wrap64 (Go.bits .and .u8 (rd l0 0) 15))))>=20 /\ (wrap64 (wB))>=(wrap64 (4*(wrap64 (Go.bits .and .u8 (rd l0 0) 15))))) (hs:(l0.length:Int)>=(wrap64 (wB))) (ha:jw.f k 0 (l0.take ((wrap64 (4*(wrap64 (Go.bits .and .u8 (rd l0 0) 15)))):Int).toNat)=some t124) (hb_:fP.f k t124=some Xw) (hx:Xw≠65535):
  Calls Try.prog 95 #[.slice A0 l0.length c0] w fun e w'=>e= .panicked [{v:= .iface 163 (.agg #[.int .i64 22]),recovered:=false}] /\ Below w.heap.size w w':=by
 have Xu:=Try.underlying73;have HR0:=Aside0.mk hr0;have mg:=Aside0.mk hc0;clear hr0 hc0;have HB:=jy w;have HD:Aside0 ((Xw==65535)=false):=⟨iM hx⟩
 clear hx;have YB:Aside0 (fB.f (decide ((l0.length:Int)>=(wrap64 (wB)))) 20=some ()):=⟨by unfold fB.f;rw [bJ hs,ah rfl]⟩
 have YD:=Aside0.mk ha;have Xo:=Aside0.mk hb_;have Nq:decide (0<=(wrap64 (4*(wrap64 (Go.bits .and .u8 (rd l0 0) 15)))))=true:=bJ (by omega);have VM:decide ((wrap64 (4*(wrap64 (Go.bits .and .u8 (rd l0 0) 15))))<=(l0.length:Int))=true:=bJ (by omega);have CS:=eq_true (of_decide_eq_true Nq);have Zz:=eq_true (of_decide_eq_true VM);have Ue:Aside0 (fB.f (decide ((wrap64 (wB))>=(wrap64 (4*(wrap64 (Go.bits .and .u8 (rd l0 0) 15)))))) 21=some ()):=⟨by unfold fB.f;rw [bJ hf.2.2,ah rfl]⟩
 have uf:(((rd l0 0) / 16)==4)=true:=jf hf.1;have JW:(((rd l0 0) / 16) !=4)=false:=oM hf.1;have CW:decide (20<=(wrap64 (4*(wrap64 (Go.bits .and .u8 (rd l0 0) 15)))))=true:=bJ hf.2.1;clear hf hs ha hb_;have A2:Aside0 (fB.f (decide ((l0.length:Int)>=20)) 20=some ()):=⟨by unfold fB.f;rw [bJ hlen,ah rfl]⟩
 have A4:=Aside0.mk h2;have tY:decide (0<(l0.length:Int))=true:=bJ (by omega);have vI:decide (0<l0.length)=true:=bJ (by omega);clear hlen h2
 go_enter Try.func95,Try.ntmps95
 try go_wp2_with (first|((with_reducible refine gate_dst (N:=2) rfl ?_);refine box_event ?hg (N:=2) ?hd (cs:= #[.int .u8 0,.int .u8 0,.int .u8 0,.int .u16 0,.int .u8 0,.int .u16 0,.int .u32 0,.int .u32 0,.slice none 0 0,.slice none 0 0]) (t:=73) ?hr ?_;(case hd=>rfl);(case hg=>rfl);(case hr=>first|(go_simp;done)|(go_simp;rfl));intro gU hg w6 hbox hb;have ay:=Aside0.mk (ag (bz HB) hb);have aC:=Aside0.mk (hbox);have bg:=Aside0.mk ((by rw [hg];exact (below_size (bz HB)):w.heap.size<=gU));have dm:=Aside0.mk ((by rw [hg];exact (below_size (bz HB)):w.heap.size<=gU));clear HB;have HB:=ay;have gW:=aC;have iU:=bg;have VL:=dm;clear ay aC bg dm;clear hb hbox hg)|((with_reducible refine ai (f:=117) rfl ?_);refine gL 9 Try.func117 #[.bool (decide ((l0.length:Int)>=20)),.int .i64 20] ?_;(with_reducible refine (fB.calls (decide ((l0.length:Int)>=20)) 20 _ A2.out).mono ?_);rintro e w' ⟨rfl,⟨nd,rfl⟩⟩;refine ⟨_,rfl, ?_⟩))
 (try (rw [iC w6];generalize nO:World.drewN w6 _=w6;have ay:Aside0 (w6.heap[gU]?=some (.cells #[.int .u8 0,.int .u8 0,.int .u8 0,.int .u16 0,.int .u8 0,.int .u16 0,.int .u32 0,.int .u32 0,.slice none 0 0,.slice none 0 0] 73 (0,0))):=⟨by rw [<- nO];exact (kz gW)⟩;have aC:Aside0 (Below w.heap.size w w6):=⟨by rw [<- nO];exact bz HB⟩;clear gW HB nO;have gW:=ay;have HB:=aC;clear ay aC))
 have ay:=Aside0.mk (az gW.out);have aC:=Aside0.mk (below_drew1 HB.out);clear gW;clear HB;have gW:=ay;have HB:=aC;clear ay aC;have Ej:0<=(0:Int):=(by omega)
 have Em:0<(l0.length:Int):=je;obtain ⟨lI,e204,jD⟩:=Kd.dU HR0.out 0 Ej Em;have jG:=jD
 (try rw [show ((0:Int)).toNat=0 from rfl] at jG)
 (try rw [show 0*1=0 from rfl] at jG)
 (try rw [Addr.add_zero'] at jG)
 cases e204
 have Zy:(0<l0.length)=True:=eq_true (by omega)
 (try rw [show ((0:Int)).toNat=0 from rfl] at jD)
 (try rw [Addr.add_zero'] at jD)
 replace jD:=(HB.out.cell (dS w _ jD)).trans jD;replace Ej:=eq_true Ej;replace Em:=eq_true Em;refine start_ (n:=11) (S:=fun w'=>w'.cell? lI=some (.int .u8 (rd l0 0))) (ds:=[]) #[false,false,false,false,false,false,false,false,false,false,false] (by kernel_rfl) rfl rfl (((HB.out.cell (dS w _ jG)).trans jG)) (fun hHeld=> ?_);refine with_tabW aQ.AcM aQ.VK (fun HT_ HW_=> ?_);generalize w6.drew=w7 at gW HB jD hHeld|-
 refine pz 0 10 HT_ ?_;refine pz 1 11 HT_ ?_;refine pz 6 16 HT_ ?_;refine tz 2 12 HT_ HW_ hHeld ?_;refine pz 3 13 HT_ ?_;refine pz 4 14 HT_ ?_;refine pz 5 15 HT_ ?_;refine oz 7 (some 17) HT_ (fun K hK=> ?_);refine gG Try.func118 #[.slice (some lI) l0.length c0,.int .i64 2] ?_
 with_reducible refine (dQ.calls _ _ l0 2 wB _ ?au ?ax A4.out).mono ?_
 (case au=>exact Kd.aJ HR0.out (bz HB))
 (case ax=>exact mg.out)
 rintro e w' ⟨rfl,⟨nd,rfl⟩⟩;refine ⟨_,rfl, ?_⟩;refine hK.out _ _ (((HB.out.cell (dS w _ jG)).trans jG)) (fun hHeld=> ?_);clear hK K;refine nz 17 ?_;refine pz 8 18 HT_ ?_;refine pz 9 3 HT_ ?_;refine pz 10 4 HT_ ?_;refine dz HT_ ?_
 go_upto_region 3 with (fail)
 (first|rw [uf]|(simp only [i64_w,i32_w];rw [uf])|skip)
 have uN:0<=(0:Int):=(by omega)
 have uO:0<(l0.length:Int):=je;obtain ⟨yO,e206,gK⟩:=Kd.dU HR0.out 0 uN uO;obtain rfl:lI=yO:=(by injection e206)
 have J5:(0<l0.length)=True:=eq_true (by omega)
 (try rw [show ((0:Int)).toNat=0 from rfl] at gK)
 (try rw [Addr.add_zero'] at gK)
 replace gK:=(HB.out.cell (dS w _ gK)).trans gK;replace uN:=eq_true uN;replace uO:=eq_true uO
 go_upto_region 4 with (first|((with_reducible refine ai (f:=117) rfl ?_);refine gL 33 Try.func117 #[.bool (decide ((wrap64 (wB))>=(wrap64 (4*(wrap64 (Go.bits .and .u8 (rd l0 0) 15)))))),.int .i64 21] ?_;(with_reducible refine (fB.calls (decide ((wrap64 (wB))>=(wrap64 (4*(wrap64 (Go.bits .and .u8 (rd l0 0) 15)))))) 21 _ Ue.out).mono ?_);rintro e w' ⟨rfl,⟨nd,rfl⟩⟩;refine ⟨_,rfl, ?_⟩))
 obtain ⟨qg,Cf⟩:∃ j_:Int,(wrap64 (4*(wrap64 (Go.bits .and .u8 (rd l0 0) 15))))=j_:=⟨_,rfl⟩
 rw [Cf] at YD Nq VM CS Zz
 have AhV:(IntKind.i64.wrap (4*(wrap64 (Go.bits .and .u8 (rd l0 0) 15))))=qg:=(i64_w _).trans Cf
 go_wp2_with (first|((with_reducible refine ai (f:=117) rfl ?_);refine gL 38 Try.func117 #[.bool (decide ((l0.length:Int)>=(wrap64 (wB)))),.int .i64 20] ?_;(with_reducible refine (fB.calls (decide ((l0.length:Int)>=(wrap64 (wB)))) 20 _ YB.out).mono ?_);rintro e w' ⟨rfl,⟨nd,rfl⟩⟩;refine ⟨_,rfl, ?_⟩;(try (rw [iC w7];generalize nO:World.drewN wc _=w7;have ay:Aside0 (w7.heap[gU]?=some (.cells #[.int .u8 0,.int .u8 0,.int .u8 0,.int .u16 0,.int .u8 0,.int .u16 0,.int .u32 0,.int .u32 0,.slice none 0 0,.slice none 0 0] 73 (0,0))):=⟨by rw [<- nO];exact (kz gW)⟩;have aC:Aside0 (Below w.heap.size w w7):=⟨by rw [<- nO];exact bz HB⟩;clear gW HB nO;have gW:=ay;have HB:=aC;clear ay aC));obtain ⟨Atu,QL,_,QM,_⟩:=info_parts info5;obtain ⟨AhX,ZE,ZF⟩:=uA (P:=Try.prog) (Value.int .u8) 0 165 5 .i64 Try.underlying165 QL QM (some lI) c0 l0 (qg) je je mg.out;have ZG:=Aside0.mk (Kd.dR (h1:=fun _=>rfl) (ZE _ (Kd.dO HR0.out)));have ZH:=Aside0.mk ZF;clear ZE ZF QL QM)|((with_reducible refine ai (f:=116) rfl ?_);refine zQ (some 42) rfl rfl Try.func116 (by kernel_rfl) rfl #[.int .u32 0,.slice (some lI) (l0.take ((qg):Int).toNat).length c0] rfl (by (try simp only [List.map_toArray,List.map_cons,List.map_nil]);first|done|(rw [show (l0.take ((qg):Int).toNat).length=(qg).toNat from (by rw [List.length_take];have h_:((qg):Int)<=(l0.length:Int):=je;omega)]<;>rfl)|(simp only [Cf];rfl)|rfl|(simp only [List.length_drop,List.length_take];rfl)|(go_simp;done)|(simp [Act.eval,IntKind.signed];done)|(simp [Act.eval,IntKind.signed];rfl)) ?_;(with_reducible refine (jw.calls k 0 _ _ (l0.take ((qg):Int).toNat) t124 _ ?au ?ax YD.out).mono ?_);(case au=>exact Kd.aJ ZG.out (bz HB));(case ax=>exact ZH.out);rintro e Hg ⟨rfl,hb⟩;refine ⟨_,rfl, ?_⟩;have ay:=Aside0.mk (aZ (kz gW) hb);have aC:=Aside0.mk (ag (bz HB) hb);clear gW;clear HB;have gW:=ay;have HB:=aC;clear ay aC;(try clear hb);(try clear hb2);(try clear hk);(try clear hi))|((with_reducible refine ai (f:=115) rfl ?_);refine gL 43 Try.func115 #[.int .u32 t124] ?_;(with_reducible refine (fP.calls k t124 Xw _ Xo.out).mono ?_);rintro e w' ⟨rfl,⟨nd,rfl⟩⟩;refine ⟨_,rfl, ?_⟩;(try (rw [iC Hg];generalize nO:World.drewN Hg _=Hg;have ay:Aside0 (Hg.heap[gU]?=some (.cells #[.int .u8 0,.int .u8 0,.int .u8 0,.int .u16 0,.int .u8 0,.int .u16 0,.int .u32 0,.int .u32 0,.slice none 0 0,.slice none 0 0] 73 (0,0))):=⟨by rw [<- nO];exact (kz gW)⟩;have aC:Aside0 (Below w.heap.size w Hg):=⟨by rw [<- nO];exact bz HB⟩;clear gW HB nO;have gW:=ay;have HB:=aC;clear ay aC)))|((with_reducible refine ai (f:=117) rfl ?_);refine dL.Nu (some 45) rfl rfl Try.func117 (by kernel_rfl) rfl #[.bool (Xw==65535),.int .i64 22] rfl (by (try simp only [List.map_toArray,List.map_cons,List.map_nil]);first|done|rfl|(simp only [List.length_drop,List.length_take];rfl)|(go_simp;done)|(simp [Act.eval,IntKind.signed];done)|(simp [Act.eval,IntKind.signed];rfl)) ?_;(with_reducible refine (fB.panics (Xw==65535) 22 _ HD.out).mono ?_);rintro e w' ⟨rfl,⟨nd,rfl⟩⟩;refine ⟨_,rfl, ?_⟩;exact ⟨rfl,rfl,bz HB⟩))
theorem dL.told {tmps:Array Value} {w:World} {gp ge:Nat} {cs:Array Value} {x:Int} (hs:cs.size=10) (hp:tmps.getD 2 undef= .pointer (some ⟨gp,0,none⟩)) (hg:w.heap[gp]?=some (.cells cs 73 (0,0)))
  (he:tmps.getD 3 undef= .pointer (some ⟨ge,0,none⟩)) (hx:w.heap[ge]?=some (.cells #[.int .i64 x] 49 (0,0))):(results Try.f57 tmps).run Try.prog w= .ok (.tuple #[.agg cs,.int .i64 x]) w:=by
 have h1:tmps[2]?.getD undef= .pointer (some ⟨gp,0,none⟩):=by simpa using hp
 have h2:tmps[3]?.getD undef= .pointer (some ⟨ge,0,none⟩):=by simpa using he
 have hc:w.cell? ⟨ge,0,none⟩=some (.int .i64 x):=(blk_cell hx 0).trans rfl
 have hl:(loadVar 49 ⟨ge,0,none⟩).run Try.prog w= .ok (.int .i64 x) w:=by
  have hu:=Try.underlying49;have hagg:(isAgg 49).run Try.prog w= .ok false w:=by kernel_rfl
  simp [loadVar,hu,hc,hagg]
 simp [results,Try.results57,h1,h2,asAddr,run_loadVar_row w gp 73 73 cs (0,0) _ hg Try.underlying73 rfl (by rw [hs];kernel_rfl),hl]
theorem dL.fail (x:Int) (A0:Option Addr) (c0 n:Nat) (w:World) (hp:∀ W,Below w.heap.size w W ->Calls Try.prog 95 #[.slice A0 n c0] W fun e w'=>e= .panicked [{v:= .iface 163 (.agg #[.int .i64 x]),recovered:=false}] /\ Below W.heap.size W w'):
  Calls Try.prog 57 #[.slice A0 n c0] w fun e w'=>e= .returned (.tuple #[.agg #[.int .u8 0,.int .u8 0,.int .u8 0,.int .u16 0,.int .u8 0,.int .u16 0,.int .u32 0,.int .u32 0,.slice none 0 0,.slice none 0 0],.int .i64 x]) /\ Below w.heap.size w w':=by
 have HB:=jy w;have HC:=Aside0.mk hp;clear hp;have hmf:∀ (fn:Fn) (first cap:Array Value) (w:World),(Instr.makeFunc fn first cap).run Try.prog w= .ok (.func fn first cap) w:=fun _ _ _ _=>rfl
 go_enter_defers Try.func57,Try.ntmps57
 go_wp2_with (first|((with_reducible refine gate_dst (N:=2) rfl ?_);refine box_event ?hg (N:=2) ?hd (cs:= #[.int .u8 0,.int .u8 0,.int .u8 0,.int .u16 0,.int .u8 0,.int .u16 0,.int .u32 0,.int .u32 0,.slice none 0 0,.slice none 0 0]) (t:=73) ?hr ?_;(case hd=>rfl);(case hg=>rfl);(case hr=>first|(go_simp;done)|(go_simp;rfl));intro gp hg w1 hbox hb;have ay:=Aside0.mk (ag (bz HB) hb);have HP:=Aside0.mk hbox;have GP:=Aside0.mk ((by rw [hg];exact (below_size (bz HB))):w.heap.size<=gp);clear HB;have HB:=ay;clear ay hb hbox hg)|((with_reducible refine gate_dst (N:=3) rfl ?_);refine box_event ?hg (N:=3) ?hd (cs:= #[.int .i64 0]) (t:=49) ?hr ?_;(case hd=>rfl);(case hg=>rfl);(case hr=>first|(go_simp;done)|(go_simp;rfl));intro ge hg w2 hbox hb;have GN:=Aside0.mk (show gp≠ge by rw [hg];exact Nat.ne_of_lt (qG (kz HP)));have aC:=Aside0.mk (aZ (kz HP) hb);have ay:=Aside0.mk (ag (bz HB) hb);have HE:=Aside0.mk hbox;have GE:=Aside0.mk ((by rw [hg];exact (below_size (bz HB))):w.heap.size<=ge);clear HB HP;have HB:=ay;have HP:=aC;clear ay aC hb hbox hg))
 refine (HC.out _ (bz HB)).mono ?_;rintro e w' ⟨rfl,hb⟩;have Jh:=Aside0.mk (aZ (kz HP) hb);have HE3:=Aside0.mk (aZ (kz HE) hb);have HB3:=Aside0.mk (ag (bz HB) hb);clear hb HP HE HB
 show Leaves _ _ _ _ _ _ _
 refine leaves_cons (f:=94) (args:= #[.pointer (some ⟨gp,0,none⟩),.pointer (some ⟨ge,0,none⟩)]) (by simp) (by simp [go_sem]) ?_;refine (dL.catch_panicking x w w' w.heap.size gp ge Jh.out HE3.out GN.out HB3.out GP.out GE.out).mono ?_;rintro e u' w'' ⟨rfl,rfl,f1,f2,f3⟩;exact ⟨_,dL.told rfl rfl f1 rfl f2,rfl,f3⟩
theorem dL.done (k:Nat) (A0:Option Addr) (c0:Nat) (l0:List Int) (r1:Int) (r2:Int) (r3:Int) (r4:Int) (r5:Int) (r6:Int) (r7:Int) (r8:Int) (r9:List Int) (r10:List Int) (w:World) (hr0:Kd.C (Kd.int .u8) w A0 l0.length l0) (hc0:l0.length<=c0) (h:aQ.f k l0=some (r1,r2,r3,r4,r5,r6,r7,r8,r9,r10)):
  Calls Try.prog 57 #[.slice A0 l0.length c0] w fun e w'=>∃ Jf Jg:Value,e= .returned (.tuple #[.agg #[.int .u8 r1,.int .u8 r2,.int .u8 r3,.int .u16 r4,.int .u8 r5,.int .u16 r6,.int .u32 r7,.int .u32 r8,Jf,Jg],.int .i64 0]) /\ Kd.R (Kd.int .u8) 5 w' w.heap.size (fun k_=>some k_≠(Jg:Value).ownBlock) Jf r9 /\ Kd.R (Kd.int .u8) 5 w' w.heap.size (fun k_=>some k_≠(Jf:Value).ownBlock) Jg r10 /\ Below w.heap.size w w':=by
 have HB:=jy w;have HR0:=Aside0.mk hr0;have mg:=Aside0.mk hc0;have HH:=Aside0.mk h;clear hr0 hc0 h;have Xu:=Try.underlying73;have hmf:∀ (fn:Fn) (first cap:Array Value) (w:World),(Instr.makeFunc fn first cap).run Try.prog w= .ok (.func fn first cap) w:=fun _ _ _ _=>rfl
 go_enter_defers Try.func57,Try.ntmps57
 go_wp2_with (first|((with_reducible refine gate_dst (N:=2) rfl ?_);refine box_event ?hg (N:=2) ?hd (cs:= #[.int .u8 0,.int .u8 0,.int .u8 0,.int .u16 0,.int .u8 0,.int .u16 0,.int .u32 0,.int .u32 0,.slice none 0 0,.slice none 0 0]) (t:=73) ?hr ?_;(case hd=>rfl);(case hg=>rfl);(case hr=>first|(go_simp;done)|(go_simp;rfl));intro gp hg w1 hbox hb;have ay:=Aside0.mk (ag (bz HB) hb);have HP:=Aside0.mk hbox;have GP:=Aside0.mk ((by rw [hg];exact (below_size (bz HB))):w.heap.size<=gp);clear HB;have HB:=ay;clear ay hb hbox hg)|((with_reducible refine gate_dst (N:=3) rfl ?_);refine box_event ?hg (N:=3) ?hd (cs:= #[.int .i64 0]) (t:=49) ?hr ?_;(case hd=>rfl);(case hg=>rfl);(case hr=>first|(go_simp;done)|(go_simp;rfl));intro ge hg w2 hbox hb;have GN:=Aside0.mk (show gp≠ge by rw [hg];exact Nat.ne_of_lt (qG (kz HP)));have aC:=Aside0.mk (aZ (kz HP) hb);have ay:=Aside0.mk (ag (bz HB) hb);have HE:=Aside0.mk hbox;have GE:=Aside0.mk ((by rw [hg];exact (below_size (bz HB))):w.heap.size<=ge);clear HB HP;have HB:=ay;have HP:=aC;clear ay aC hb hbox hg))
 refine (aQ.calls k A0 c0 l0 r1 r2 r3 r4 r5 r6 r7 r8 r9 r10 _ (Kd.aJ HR0.out (bz HB)) mg.out HH.out).mono ?_;rintro e w' ⟨Jf,Jg,rfl,ho8,ho9,hb⟩;obtain ⟨B8,d8,rfl⟩:=Kd.dN ho8;obtain ⟨B9,d9,rfl⟩:=Kd.dN ho9;have Jh:=Aside0.mk (aZ (kz HP) hb);have HE3:=Aside0.mk (aZ (kz HE) hb);have HB3:=Aside0.mk (ag (bz HB) hb);have HLP:gp<w2.heap.size:=qG HP.out;have YE:ge<w2.heap.size:=qG HE.out;have HS:w.heap.size<=w2.heap.size:=below_size (bz HB);have O8:=Aside0.mk ho8;have O9:=Aside0.mk ho9;clear hb HP HE HB ho8 ho9
 (try dsimp only)
 have hs0:w'.cell? ⟨gp,0,none⟩=some (.int .u8 0):=cz Jh.out 0 rfl;have Uf:=blk_frozen Jh.out 0;have hs1:w'.cell? ⟨gp,1,none⟩=some (.int .u8 0):=cz Jh.out 1 rfl;have Ah8:=blk_frozen Jh.out 1;have hs2:w'.cell? ⟨gp,2,none⟩=some (.int .u8 0):=cz Jh.out 2 rfl;have Ah9:=blk_frozen Jh.out 2;have hs3:w'.cell? ⟨gp,3,none⟩=some (.int .u16 0):=cz Jh.out 3 rfl;have Aid:=blk_frozen Jh.out 3;have hs4:w'.cell? ⟨gp,4,none⟩=some (.int .u8 0):=cz Jh.out 4 rfl;have Aie:=blk_frozen Jh.out 4;have hs5:w'.cell? ⟨gp,5,none⟩=some (.int .u16 0):=cz Jh.out 5 rfl;have Aif:=blk_frozen Jh.out 5;have hs6:w'.cell? ⟨gp,6,none⟩=some (.int .u32 0):=cz Jh.out 6 rfl;have Aig:=blk_frozen Jh.out 6;have hs7:w'.cell? ⟨gp,7,none⟩=some (.int .u32 0):=cz Jh.out 7 rfl;have Aih:=blk_frozen Jh.out 7
 have hs8:w'.cell? ⟨gp,8,none⟩=some (.slice none 0 0):=cz Jh.out 8 rfl;have Aii:=blk_frozen Jh.out 8;have hs9:w'.cell? ⟨gp,9,none⟩=some (.slice none 0 0):=cz Jh.out 9 rfl;have Aij:=blk_frozen Jh.out 9;have hse:w'.cell? ⟨ge,0,none⟩=some (.int .i64 0):=cz HE3.out 0 rfl;have AtH:=blk_frozen HE3.out 0;have Amu:gp≠ge:=GN.out;have hneg:ge≠gp:=fun e=>Amu e.symm
 go_wp2
 clear hs0 Uf hs1 Ah8 hs2 Ah9 hs3 Aid hs4 Aie hs5 Aif hs6 Aig hs7 Aih hs8 Aii hs9 Aij;have b0:=Jh.out;have e0:=HE3.out;have l0_:=HB3.out;have u0:=O8.out;have t0:=O9.out;have b1:=bH (cs':= #[.int .u8 r1,.int .u8 0,.int .u8 0,.int .u16 0,.int .u8 0,.int .u16 0,.int .u32 0,.int .u32 0,.slice none 0 0,.slice none 0 0]) b0 0 (.int .u8 r1) rfl;have e1:=lS e0 (p:=⟨gp,0,none⟩) hneg (.int .u8 r1);have l1_:=Below.setCell (p:=⟨gp,0,none⟩) l0_ GP.out (.int .u8 r1);have u1:=Kd.uq u0 b0 (by decide) 0 (.int .u8 r1);have t1:=Kd.uq t0 b0 (by decide) 0 (.int .u8 r1);clear b0 e0 l0_ u0 t0;have b2:=bH (cs':= #[.int .u8 r1,.int .u8 r2,.int .u8 0,.int .u16 0,.int .u8 0,.int .u16 0,.int .u32 0,.int .u32 0,.slice none 0 0,.slice none 0 0]) b1 1 (.int .u8 r2) rfl
 have e2:=lS e1 (p:=⟨gp,1,none⟩) hneg (.int .u8 r2);have l2_:=Below.setCell (p:=⟨gp,1,none⟩) l1_ GP.out (.int .u8 r2);have u2:=Kd.uq u1 b1 (by decide) 1 (.int .u8 r2);have t2:=Kd.uq t1 b1 (by decide) 1 (.int .u8 r2);clear b1 e1 l1_ u1 t1;have b3:=bH (cs':= #[.int .u8 r1,.int .u8 r2,.int .u8 r3,.int .u16 0,.int .u8 0,.int .u16 0,.int .u32 0,.int .u32 0,.slice none 0 0,.slice none 0 0]) b2 2 (.int .u8 r3) rfl;have e3:=lS e2 (p:=⟨gp,2,none⟩) hneg (.int .u8 r3);have l3_:=Below.setCell (p:=⟨gp,2,none⟩) l2_ GP.out (.int .u8 r3);have u3:=Kd.uq u2 b2 (by decide) 2 (.int .u8 r3);have t3:=Kd.uq t2 b2 (by decide) 2 (.int .u8 r3);clear b2 e2 l2_ u2 t2
 have b4:=bH (cs':= #[.int .u8 r1,.int .u8 r2,.int .u8 r3,.int .u16 r4,.int .u8 0,.int .u16 0,.int .u32 0,.int .u32 0,.slice none 0 0,.slice none 0 0]) b3 3 (.int .u16 r4) rfl;have e4:=lS e3 (p:=⟨gp,3,none⟩) hneg (.int .u16 r4);have l4_:=Below.setCell (p:=⟨gp,3,none⟩) l3_ GP.out (.int .u16 r4);have u4:=Kd.uq u3 b3 (by decide) 3 (.int .u16 r4);have t4:=Kd.uq t3 b3 (by decide) 3 (.int .u16 r4);clear b3 e3 l3_ u3 t3;have b5:=bH (cs':= #[.int .u8 r1,.int .u8 r2,.int .u8 r3,.int .u16 r4,.int .u8 r5,.int .u16 0,.int .u32 0,.int .u32 0,.slice none 0 0,.slice none 0 0]) b4 4 (.int .u8 r5) rfl;have e5:=lS e4 (p:=⟨gp,4,none⟩) hneg (.int .u8 r5);have l5_:=Below.setCell (p:=⟨gp,4,none⟩) l4_ GP.out (.int .u8 r5);have u5:=Kd.uq u4 b4 (by decide) 4 (.int .u8 r5)
 have t5:=Kd.uq t4 b4 (by decide) 4 (.int .u8 r5);clear b4 e4 l4_ u4 t4;have b6:=bH (cs':= #[.int .u8 r1,.int .u8 r2,.int .u8 r3,.int .u16 r4,.int .u8 r5,.int .u16 r6,.int .u32 0,.int .u32 0,.slice none 0 0,.slice none 0 0]) b5 5 (.int .u16 r6) rfl;have e6:=lS e5 (p:=⟨gp,5,none⟩) hneg (.int .u16 r6);have l6_:=Below.setCell (p:=⟨gp,5,none⟩) l5_ GP.out (.int .u16 r6);have u6:=Kd.uq u5 b5 (by decide) 5 (.int .u16 r6);have t6:=Kd.uq t5 b5 (by decide) 5 (.int .u16 r6);clear b5 e5 l5_ u5 t5;have b7:=bH (cs':= #[.int .u8 r1,.int .u8 r2,.int .u8 r3,.int .u16 r4,.int .u8 r5,.int .u16 r6,.int .u32 r7,.int .u32 0,.slice none 0 0,.slice none 0 0]) b6 6 (.int .u32 r7) rfl;have e7:=lS e6 (p:=⟨gp,6,none⟩) hneg (.int .u32 r7);have l7_:=Below.setCell (p:=⟨gp,6,none⟩) l6_ GP.out (.int .u32 r7)
 have u7:=Kd.uq u6 b6 (by decide) 6 (.int .u32 r7);have t7:=Kd.uq t6 b6 (by decide) 6 (.int .u32 r7);clear b6 e6 l6_ u6 t6;have b8:=bH (cs':= #[.int .u8 r1,.int .u8 r2,.int .u8 r3,.int .u16 r4,.int .u8 r5,.int .u16 r6,.int .u32 r7,.int .u32 r8,.slice none 0 0,.slice none 0 0]) b7 7 (.int .u32 r8) rfl;have e8:=lS e7 (p:=⟨gp,7,none⟩) hneg (.int .u32 r8);have l8_:=Below.setCell (p:=⟨gp,7,none⟩) l7_ GP.out (.int .u32 r8);have u8:=Kd.uq u7 b7 (by decide) 7 (.int .u32 r8);have t8:=Kd.uq t7 b7 (by decide) 7 (.int .u32 r8);clear b7 e7 l7_ u7 t7;have b9:=bH (cs':= #[.int .u8 r1,.int .u8 r2,.int .u8 r3,.int .u16 r4,.int .u8 r5,.int .u16 r6,.int .u32 r7,.int .u32 r8,.slice B8 r9.length d8,.slice none 0 0]) b8 8 (.slice B8 r9.length d8) rfl;have e9:=lS e8 (p:=⟨gp,8,none⟩) hneg (.slice B8 r9.length d8)
 have l9_:=Below.setCell (p:=⟨gp,8,none⟩) l8_ GP.out (.slice B8 r9.length d8);have u9:=Kd.uq u8 b8 (by decide) 8 (.slice B8 r9.length d8);have t9:=Kd.uq t8 b8 (by decide) 8 (.slice B8 r9.length d8);clear b8 e8 l8_ u8 t8;have b10:=bH (cs':= #[.int .u8 r1,.int .u8 r2,.int .u8 r3,.int .u16 r4,.int .u8 r5,.int .u16 r6,.int .u32 r7,.int .u32 r8,.slice B8 r9.length d8,.slice B9 r10.length d9]) b9 9 (.slice B9 r10.length d9) rfl;have e10:=lS e9 (p:=⟨gp,9,none⟩) hneg (.slice B9 r10.length d9);have AtI:=Below.setCell (p:=⟨gp,9,none⟩) l9_ GP.out (.slice B9 r10.length d9);have u10:=Kd.uq u9 b9 (by decide) 9 (.slice B9 r10.length d9);have t10:=Kd.uq t9 b9 (by decide) 9 (.slice B9 r10.length d9);clear b9 e9 l9_ u9 t9;have b11:=lS b10 (p:=⟨ge,0,none⟩) Amu (.int .i64 0)
 have e11:=bH (cs':= #[.int .i64 0]) e10 0 (.int .i64 0) rfl;have AtJ:=Below.setCell (p:=⟨ge,0,none⟩) AtI GE.out (.int .i64 0);have u11:=Kd.uq u10 e10 (by decide) 0 (.int .i64 0);have t11:=Kd.uq t10 e10 (by decide) 0 (.int .i64 0);clear Jh HE3 HB3 O8 O9 hse AtH
 show Leaves _ _ _ _ _ _ _
 refine leaves_cons (f:=94) (args:= #[.pointer (some ⟨gp,0,none⟩),.pointer (some ⟨ge,0,none⟩)]) (by simp) (by simp [go_sem]) ?_;refine (dL.catch_idle ⟨gp,0,none⟩ ⟨ge,0,none⟩ _).mono ?_;rintro e u' w'' ⟨rfl,rfl,rfl⟩;exact ⟨_,dL.told rfl rfl b11 rfl e11,_,_,rfl,Kd.R_lower u11 HS,Kd.R_lower t11 HS,AtJ⟩
def dL.f (k:Nat) (l0:List Int):Option (Int×Int×Int×Int×Int×Int×Int×Int×List Int×List Int×Int):=
 if (l0.length:Int)<20 then some (0,0,0,0,0,0,0,0,[],[],20) else (dQ.f l0 2).bind fun t=>
 if (rd l0 0) / 16=4 /\ (wrap64 (4*(wrap64 (Go.bits .and .u8 (rd l0 0) 15))))>=20 /\ (wrap64 (t))>=(wrap64 (4*(wrap64 (Go.bits .and .u8 (rd l0 0) 15)))) then
  if (l0.length:Int)<(wrap64 (t)) then some (0,0,0,0,0,0,0,0,[],[],20) else
  (jw.f k 0 (l0.take ((wrap64 (4*(wrap64 (Go.bits .and .u8 (rd l0 0) 15)))):Int).toNat)).bind fun a=>(fP.f k a).bind fun b=>
  if b=65535 then (aQ.f k l0).bind fun p=>some (p.1,p.2.1,p.2.2.1,p.2.2.2.1,p.2.2.2.2.1,p.2.2.2.2.2.1,p.2.2.2.2.2.2.1,p.2.2.2.2.2.2.2.1,p.2.2.2.2.2.2.2.2.1,p.2.2.2.2.2.2.2.2.2,0)
  else some (0,0,0,0,0,0,0,0,[],[],22)
 else some (0,0,0,0,0,0,0,0,[],[],21)
theorem dL.calls (k:Nat) (A0:Option Addr) (c0:Nat) (l0:List Int) (r1:Int) (r2:Int) (r3:Int) (r4:Int) (r5:Int) (r6:Int) (r7:Int) (r8:Int) (r9:List Int) (r10:List Int) (r11:Int) (w:World) (hr0:Kd.C (Kd.int .u8) w A0 l0.length l0) (hc0:l0.length<=c0) (h:dL.f k l0=some (r1,r2,r3,r4,r5,r6,r7,r8,r9,r10,r11)):
  Calls Try.prog 57 #[.slice A0 l0.length c0] w fun e w'=>∃ Jf Jg:Value,e= .returned (.tuple #[.agg #[.int .u8 r1,.int .u8 r2,.int .u8 r3,.int .u16 r4,.int .u8 r5,.int .u16 r6,.int .u32 r7,.int .u32 r8,Jf,Jg],.int .i64 r11]) /\ Kd.R (Kd.int .u8) 5 w' w.heap.size (fun k_=>some k_≠(Jg:Value).ownBlock) Jf r9 /\ Kd.R (Kd.int .u8) 5 w' w.heap.size (fun k_=>some k_≠(Jf:Value).ownBlock) Jg r10 /\ Below w.heap.size w w':=by
 have fail:∀ x:Int,(∀ W,Below w.heap.size w W ->Calls Try.prog 95 #[.slice A0 l0.length c0] W fun e w'=>e= .panicked [{v:= .iface 163 (.agg #[.int .i64 x]),recovered:=false}] /\ Below W.heap.size W w') ->some (0,0,0,0,0,0,0,0,([]:List Int),([]:List Int),x)=some (r1,r2,r3,r4,r5,r6,r7,r8,r9,r10,r11) ->
   Calls Try.prog 57 #[.slice A0 l0.length c0] w fun e w'=>∃ Jf Jg:Value,e= .returned (.tuple #[.agg #[.int .u8 r1,.int .u8 r2,.int .u8 r3,.int .u16 r4,.int .u8 r5,.int .u16 r6,.int .u32 r7,.int .u32 r8,Jf,Jg],.int .i64 r11]) /\ Kd.R (Kd.int .u8) 5 w' w.heap.size (fun k_=>some k_≠(Jg:Value).ownBlock) Jf r9 /\ Kd.R (Kd.int .u8) 5 w' w.heap.size (fun k_=>some k_≠(Jf:Value).ownBlock) Jg r10 /\ Below w.heap.size w w':=by
  intro x hp hx;simp only [Option.some.injEq,Prod.mk.injEq] at hx
  obtain ⟨rfl,rfl,rfl,rfl,rfl,rfl,rfl,rfl,rfl,rfl,rfl⟩:=hx;refine (dL.fail x A0 c0 l0.length w hp).mono ?_;rintro e w' ⟨rfl,hb⟩;exact ⟨_,_,rfl,Kd.bV _ _ _ _ _,Kd.bV _ _ _ _ _,hb⟩
 unfold dL.f at h
 by_cases c1:(l0.length:Int)<20
 ·rw [ah c1] at h
  exact fail 20 (fun W hW=>aQ.AtD A0 c0 l0 W (Kd.aJ hr0 hW) hc0 c1) h
 ·rw [aj c1] at h
  obtain ⟨t,h2,h⟩:=dM h;have c1':(l0.length:Int)>=20:=by omega
  by_cases c2:(rd l0 0) / 16=4 /\ (wrap64 (4*(wrap64 (Go.bits .and .u8 (rd l0 0) 15))))>=20 /\ (wrap64 (t))>=(wrap64 (4*(wrap64 (Go.bits .and .u8 (rd l0 0) 15))))
  ·rw [ah c2] at h
   by_cases c3:(l0.length:Int)<(wrap64 (t))
   ·rw [ah c3] at h
    exact fail 20 (fun W hW=>aQ.AtF t A0 c0 l0 W (Kd.aJ hr0 hW) hc0 c1' h2 c2 c3) h
   ·rw [aj c3] at h
    obtain ⟨a,ha,h⟩:=dM h;obtain ⟨b,hb,h⟩:=dM h
    by_cases c4:b=65535
    ·rw [ah c4] at h
     obtain ⟨p,hp,h⟩:=dM h;obtain ⟨p1,p2,p3,p4,p5,p6,p7,p8,p9,p10⟩:=p;simp only [Option.some.injEq,Prod.mk.injEq] at h
     obtain ⟨rfl,rfl,rfl,rfl,rfl,rfl,rfl,rfl,rfl,rfl,rfl⟩:=h;exact dL.done k A0 c0 l0 _ _ _ _ _ _ _ _ _ _ w hr0 hc0 hp
    ·rw [aj c4] at h
     exact fail 22 (fun W hW=>aQ.AtG k t a b A0 c0 l0 W (Kd.aJ hr0 hW) hc0 c1' h2 c2 (by omega) ha hb c4) h
  ·rw [aj c2] at h
   exact fail 21 (fun W hW=>aQ.AtE t A0 c0 l0 W (Kd.aJ hr0 hW) hc0 c1' h2 c2) h
attribute [local go_sem] dV dW gI gJ dG dH dX dY
def ug.f (aI:Int) (aV:Int) (aX:Int) (iZ:List Int):Option (List Int×Int):=if (wrap64 (8+(iZ.length:Int)))>65535 then (some (([]:List Int),23)) else ((some (([(aI / 256) % 256,(aI) % 256,(aV / 256) % 256,(aV) % 256,((wrap64 (8+(iZ.length:Int))) / 256) % 256,(wrap64 (8+(iZ.length:Int))) % 256,(aX / 256) % 256,(aX) % 256]:List Int):List Int)).bind fun Ko=>(if Ko.length+iZ.length<140737488355328 then (some ((Ko++iZ),0)) else (none)))
theorem ug.calls (aI:Int) (aV:Int) (aX:Int) (wC:Option Addr) (wE:Nat) (iZ:List Int) (r1:List Int) (r2:Int) (w:World) (C9:Kd.C (Kd.int .u8) w wC iZ.length iZ) (Dc:iZ.length<=wE) (h:ug.f aI aV aX iZ=some (r1,r2)):
  Calls Try.prog 108 #[.agg #[.int .u16 aI,.int .u16 aV,.int .u16 aX,.slice wC iZ.length wE]] w fun e w'=>∃ uP:Value,e= .returned (.tuple #[uP,.int .i64 r2]) /\ Kd.R (Kd.int .u8) 5 w' w.heap.size (fun _=>True) uP r1 /\ Below w.heap.size w w':=by
 have F7:=Try.underlying83;have Nv:=Aside0.mk C9;have VN:=Aside0.mk Dc;clear C9 Dc;have HB:=jy w;have H:(if (wrap64 (8+(iZ.length:Int)))>65535 then (some (([]:List Int),23)) else ((some (([(aI / 256) % 256,(aI) % 256,(aV / 256) % 256,(aV) % 256,((wrap64 (8+(iZ.length:Int))) / 256) % 256,(wrap64 (8+(iZ.length:Int))) % 256,(aX / 256) % 256,(aX) % 256]:List Int):List Int)).bind fun Ko=>(if Ko.length+iZ.length<140737488355328 then (some ((Ko++iZ),0)) else (none))))=some (r1,r2):=h;clear h
 by_cases c2:(wrap64 (8+(iZ.length:Int)))>65535
 ·rw [ah c2] at H
  have nV:decide (65535<(wrap64 (8+(iZ.length:Int))))=true:=bJ c2;clear c2;simp only [Option.some.injEq,Prod.mk.injEq] at H
  obtain ⟨rfl,rfl⟩:=H
  go_enter Try.func108,Try.ntmps108
  go_wp2_with (first|((with_reducible refine gate_dst (N:=1) rfl ?_);refine box_event ?hg (N:=1) ?hd (cs:= #[.int .u16 aI,.int .u16 aV,.int .u16 aX,.slice wC iZ.length wE]) (t:=83) ?hr ?_;(case hd=>rfl);(case hg=>rfl);(case hr=>first|(go_simp;done)|(go_simp;rfl));intro wZ hg w3 hbox hb;have ay:=Aside0.mk (ag (bz HB) hb);have aC:=Aside0.mk (hbox);have bg:=Aside0.mk ((by rw [hg];exact (below_size (bz HB)):w.heap.size<=wZ));have dm:=Aside0.mk ((by rw [hg];exact (below_size (bz HB)):w.heap.size<=wZ));clear HB;have HB:=ay;have oC:=aC;have Amv:=bg;have Amw:=dm;clear ay aC bg dm;clear hb hbox hg;have vK:w3.cell? ⟨wZ,0,none⟩=some (.int .u16 aI):=cz oC.out 0 rfl;have vM:w3.cell? ⟨wZ,1,none⟩=some (.int .u16 aV):=cz oC.out 1 rfl;have vN:w3.cell? ⟨wZ,2,none⟩=some (.int .u16 aX):=cz oC.out 2 rfl;have vO:w3.cell? ⟨wZ,3,none⟩=some (.slice wC iZ.length wE):=cz oC.out 3 rfl;have vP:=blk_frozen oC.out 0;have vS:=blk_frozen oC.out 1;have vT:=blk_frozen oC.out 2;have vU:=blk_frozen oC.out 3))
  go_ret2
  exact ⟨_,by first|rfl|(simp [ae,af]<;>rfl)|(simp [*,ae,af]<;>rfl),by first|exact Kd.bV _ _ _ _ _|exact Kd.lV _ _ _ _ _|exact Kd.lW _ _ _ _ _|exact Kd.lT _ _ _ _ _|exact Kd.lU _ _ _ _ _,bz HB⟩
 ·rw [aj c2] at H
  have nV:decide (65535<(wrap64 (8+(iZ.length:Int))))=false:=jC c2;clear c2;obtain ⟨Ko,QU⟩:∃ y_:List Int,y_=(([(aI / 256) % 256,(aI) % 256,(aV / 256) % 256,(aV) % 256,((wrap64 (8+(iZ.length:Int))) / 256) % 256,(wrap64 (8+(iZ.length:Int))) % 256,(aX / 256) % 256,(aX) % 256]:List Int)):=⟨_,rfl⟩
  replace H:(if Ko.length+iZ.length<140737488355328 then (some ((Ko++iZ),0)) else (none))=some (r1,r2):=by first|(rw [QU];with_reducible exact H)|(have oO:=(bG _ _).symm.trans H;rw [QU];with_reducible exact oO)|(have oO:=(bG _ _).symm.trans H;with_reducible exact oO)|with_reducible exact H|(rw [QU];exact H)|exact H
  have Afa:=Aside0.mk QU;clear QU
  by_cases c5:Ko.length+iZ.length<140737488355328
  ·rw [ah c5] at H
   have Aik:=Aside0.mk c5;clear c5;obtain ⟨AtK,hy128⟩:∃ y_:List Int,y_=(Ko++iZ):=⟨_,rfl⟩
   replace H:(some (AtK,0))=some (r1,r2):=by first|(rw [hy128];with_reducible exact H)|(have oO:=(bG _ _).symm.trans H;rw [hy128];with_reducible exact oO)|(have oO:=(bG _ _).symm.trans H;with_reducible exact oO)|with_reducible exact H|(rw [hy128];exact H)|exact H
   have Amx:=Aside0.mk hy128;clear hy128;simp only [Option.some.injEq,Prod.mk.injEq] at H
   obtain ⟨rfl,rfl⟩:=H
   go_enter Try.func108,Try.ntmps108
   go_wp2_with (first|((with_reducible refine gate_dst (N:=1) rfl ?_);refine box_event ?hg (N:=1) ?hd (cs:= #[.int .u16 aI,.int .u16 aV,.int .u16 aX,.slice wC iZ.length wE]) (t:=83) ?hr ?_;(case hd=>rfl);(case hg=>rfl);(case hr=>first|(go_simp;done)|(go_simp;rfl));intro wZ hg w6 hbox hb;have ay:=Aside0.mk (ag (bz HB) hb);have aC:=Aside0.mk (hbox);have bg:=Aside0.mk ((by rw [hg];exact (below_size (bz HB)):w.heap.size<=wZ));have dm:=Aside0.mk ((by rw [hg];exact (below_size (bz HB)):w.heap.size<=wZ));clear HB;have HB:=ay;have oC:=aC;have Amv:=bg;have Amw:=dm;clear ay aC bg dm;clear hb hbox hg;have AZ:w6.cell? ⟨wZ,0,none⟩=some (.int .u16 aI):=cz oC.out 0 rfl;have Ba:w6.cell? ⟨wZ,1,none⟩=some (.int .u16 aV):=cz oC.out 1 rfl;have Bc:w6.cell? ⟨wZ,2,none⟩=some (.int .u16 aX):=cz oC.out 2 rfl;have Bd:w6.cell? ⟨wZ,3,none⟩=some (.slice wC iZ.length wE):=cz oC.out 3 rfl;have Be:=blk_frozen oC.out 0;have Bf:=blk_frozen oC.out 1;have Bg:=blk_frozen oC.out 2;have Bh:=blk_frozen oC.out 3)|((with_reducible refine gate_dst (N:=37) rfl ?_);refine Kd.wI (Kd.int .u8) _ 5 ?hg (N:=37) ?hd (xs:=([(aI / 256) % 256,(aI) % 256,(aV / 256) % 256,(aV) % 256,((wrap64 (8+(iZ.length:Int))) / 256) % 256,(wrap64 (8+(iZ.length:Int))) % 256,(aX / 256) % 256,(aX) % 256]:List Int)) (inner:=[.int .u8 ((aI / 256) % 256),.int .u8 ((aI) % 256),.int .u8 ((aV / 256) % 256),.int .u8 ((aV) % 256),.int .u8 (((wrap64 (8+(iZ.length:Int))) / 256) % 256),.int .u8 ((wrap64 (8+(iZ.length:Int))) % 256),.int .u8 ((aX / 256) % 256),.int .u8 ((aX) % 256)]) (ok:=fun _=>True) (xw:=fun _=>True) ?hr ?hp (fun _ hk=>hk) trivial (Below.refl _ _) (Nat.le_refl _) (by simp) ?_;(case hd=>rfl);(case hg=>rfl);(case hr=>first|(go_simp;done)|(go_simp;simp only [IntKind.wrap_u8,IntKind.wrap_u16,IntKind.wrap_u32];done)|(go_simp;rfl));(case hp=>exact (dn.one (show Kd.M (Kd.int .u8) _ _ _ ((aI / 256) % 256) [.int .u8 ((aI / 256) % 256)] from rfl) (dn.one (show Kd.M (Kd.int .u8) _ _ _ ((aI) % 256) [.int .u8 ((aI) % 256)] from rfl) (dn.one (show Kd.M (Kd.int .u8) _ _ _ ((aV / 256) % 256) [.int .u8 ((aV / 256) % 256)] from rfl) (dn.one (show Kd.M (Kd.int .u8) _ _ _ ((aV) % 256) [.int .u8 ((aV) % 256)] from rfl) (dn.one (show Kd.M (Kd.int .u8) _ _ _ (((wrap64 (8+(iZ.length:Int))) / 256) % 256) [.int .u8 (((wrap64 (8+(iZ.length:Int))) / 256) % 256)] from rfl) (dn.one (show Kd.M (Kd.int .u8) _ _ _ ((wrap64 (8+(iZ.length:Int))) % 256) [.int .u8 ((wrap64 (8+(iZ.length:Int))) % 256)] from rfl) (dn.one (show Kd.M (Kd.int .u8) _ _ _ ((aX / 256) % 256) [.int .u8 ((aX / 256) % 256)] from rfl) (dn.one (show Kd.M (Kd.int .u8) _ _ _ ((aX) % 256) [.int .u8 ((aX) % 256)] from rfl) (dn.none _ _))))))))));intro AtL w8 ho9 hb hg_ kP;clear hg_ kP;(first|rw [<- Afa.out] at ho9|(simp only [Int.reduceToNat] at ho9;rw [<- Afa.out] at ho9));have ay:=Aside0.mk (Kd.R_lower ho9 (below_size (bz HB)));have aC:=Aside0.mk (aZ (kz oC) hb);have bg:=Aside0.mk (ag (bz HB) hb);clear oC;clear HB;have ZQ:=ay;have oC:=aC;have HB:=bg;clear ay aC bg;clear hb ho9;have zk:w8.cell? ⟨wZ,0,none⟩=some (.int .u16 aI):=cz oC.out 0 rfl;have zl:w8.cell? ⟨wZ,1,none⟩=some (.int .u16 aV):=cz oC.out 1 rfl;have zn:w8.cell? ⟨wZ,2,none⟩=some (.int .u16 aX):=cz oC.out 2 rfl;have zo:w8.cell? ⟨wZ,3,none⟩=some (.slice wC iZ.length wE):=cz oC.out 3 rfl;have zq:=blk_frozen oC.out 0;have zu:=blk_frozen oC.out 1;have zx:=blk_frozen oC.out 2;have zy:=blk_frozen oC.out 3)|((with_reducible refine iF (b:= .append) (xs:= #[.tmp 37,.tmp 39]) rfl ?_);at_builtin;refine Kd.jv (Kd.int .u8) (w0:=w) w.heap.size rfl (.tmp 37) (.tmp 39) 23 5 (.int .u8 0) 1 rfl Try.underlying23 info5 rfl (by decide) (by omega) AtL Ko iZ _ _ _ (fun _=>True) (fun _=>False) rfl rfl ?aO ?aR (fun _ _ h=>h) (fun _ h=>h.elim) ?aF ?aB ?aS ?aL ?_;(case aR=>exact Kd.aJ Nv.out (bz HB));(case aB=>exact bz HB);(case aF=>exact (fun _ _=>trivial));(case aO=>exact (Kd.rz ZQ));(case aS=>exact (below_size (bz HB)));(case aL=>have:=Aik.out;omega);intro AyU w11 ho hb hg hat;rw [<- Amx.out] at ho;have ay:=Aside0.mk (jK (kz oC) hg (Kd.rV ZQ.out oC.out (by decide)));have aC:=Aside0.mk (hb);have bg:=Aside0.mk (ho);clear oC;clear HB;clear ZQ;have oC:=ay;have HB:=aC;have Amy:=bg;clear ay aC bg;clear ho hb hg hat))
   go_ret2
   exact ⟨_,by first|rfl|(simp [ae,af]<;>rfl)|(simp [*,ae,af]<;>rfl),by (with_reducible repeat (first|apply Kd.ik|apply Kd.gV|apply Kd.iq));exact Amy.out,bz HB⟩
  ·rw [aj c5] at H
   cases H
attribute [local go_sem] dV dW gI gJ dG dH dX dY
def nX.f (k:Nat) (a0:Int) (a1:Int) (a2:Int) (a3:Int):Option (Int):=(fP.f k (((a0 / 65536)+(Go.bits .and .u32 a0 65535)+(a1 / 65536)+(Go.bits .and .u32 a1 65535)+(a2)+(IntKind.u16.wrap (a3))) % 4294967296)).bind fun Xx=>(some ((Xx) % 4294967296))
theorem nX.calls (k:Nat) (a0:Int) (a1:Int) (a2:Int) (a3:Int) (r:Int) (w:World) (h:nX.f k a0 a1 a2 a3=some r):
  Calls Try.prog 121 #[.int .u32 a0,.int .u32 a1,.int .u8 a2,.int .i64 a3] w fun e w'=>e= .returned (.int .u32 r) /\ bf w w':=by
 have H:((fP.f k (((a0 / 65536)+(Go.bits .and .u32 a0 65535)+(a1 / 65536)+(Go.bits .and .u32 a1 65535)+(a2)+(IntKind.u16.wrap (a3))) % 4294967296)).bind fun Xx=>(some ((Xx) % 4294967296)))=some r:=h;clear h;replace H:=dM H;obtain ⟨Xx,Kq,H⟩:=H;replace H:(some ((Xx) % 4294967296))=some r:=H;have A5:=Aside0.mk Kq;clear Kq;obtain rfl:=eF H
 go_enter Try.func121,Try.ntmps121
 go_wp2_with (first|((with_reducible refine ai (f:=115) rfl ?_);refine gL 27 Try.func115 #[.int .u32 (((a0 / 65536)+(Go.bits .and .u32 a0 65535)+(a1 / 65536)+(Go.bits .and .u32 a1 65535)+(a2)+(IntKind.u16.wrap (a3))) % 4294967296)] ?_;(with_reducible refine (fP.calls k (((a0 / 65536)+(Go.bits .and .u32 a0 65535)+(a1 / 65536)+(Go.bits .and .u32 a1 65535)+(a2)+(IntKind.u16.wrap (a3))) % 4294967296) Xx _ A5.out).mono ?_);rintro e w' ⟨rfl,⟨nd,rfl⟩⟩;refine ⟨_,rfl, ?_⟩))
 go_ret
 exact ⟨by first|rfl|(simp;done)|(simp [*];done),by repeat (first|exact bf.refl _|apply bf.step)⟩
def uh.f (k:Nat) (a0:Int) (a1:Int) (fH:Int) (fJ:Int) (fF:Int) (jH:List Int):Option (Int×Bool):=(ug.f fH fJ fF jH).bind fun Kr=>((nX.f k a0 a1 17 (Kr.1.length:Int)).bind fun MR=>((jw.f k MR Kr.1).bind fun IQ=>((fP.f k IQ).bind fun IU=>(some (IU,(Kr.2==0))))))
theorem uh.calls (k:Nat) (a0:Int) (a1:Int) (fH:Int) (fJ:Int) (fF:Int) (pI:Option Addr) (pJ:Nat) (jH:List Int) (r1:Int) (r2:Bool) (w:World) (Df:Kd.C (Kd.int .u8) w pI jH.length jH) (Dh:jH.length<=pJ) (h:uh.f k a0 a1 fH fJ fF jH=some (r1,r2)):
  Calls Try.prog 98 #[.int .u32 a0,.int .u32 a1,.agg #[.int .u16 fH,.int .u16 fJ,.int .u16 fF,.slice pI jH.length pJ]] w fun e w'=>e= .returned (.tuple #[.int .u16 r1,.bool r2]) /\ Below w.heap.size w w':=by
 have F7:=Try.underlying83;have Di:=Aside0.mk Df;have Dj:=Aside0.mk Dh;clear Df Dh;have HB:=jy w;have H:((ug.f fH fJ fF jH).bind fun Kr=>((nX.f k a0 a1 17 (Kr.1.length:Int)).bind fun MR=>((jw.f k MR Kr.1).bind fun IQ=>((fP.f k IQ).bind fun IU=>(some (IU,(Kr.2==0)))))))=some (r1,r2):=h;clear h;replace H:=dM H;obtain ⟨⟨QV,ZR⟩,yz,H⟩:=H;replace H:((nX.f k a0 a1 17 (QV.length:Int)).bind fun MR=>((jw.f k MR QV).bind fun IQ=>((fP.f k IQ).bind fun IU=>(some (IU,(ZR==0))))))=some (r1,r2):=H;have A4:=Aside0.mk yz;clear yz;replace H:=dM H;obtain ⟨MR,Kq,H⟩:=H
 replace H:((jw.f k MR QV).bind fun IQ=>((fP.f k IQ).bind fun IU=>(some (IU,(ZR==0)))))=some (r1,r2):=H;have A5:=Aside0.mk Kq;clear Kq;replace H:=dM H;obtain ⟨IQ,Ce,H⟩:=H;replace H:((fP.f k IQ).bind fun IU=>(some (IU,(ZR==0))))=some (r1,r2):=H;have A6:=Aside0.mk Ce;clear Ce;replace H:=dM H;obtain ⟨IU,Iq,H⟩:=H;replace H:(some (IU,(ZR==0)))=some (r1,r2):=H;have A7:=Aside0.mk Iq;clear Iq;simp only [Option.some.injEq,Prod.mk.injEq] at H
 obtain ⟨rfl,rfl⟩:=H
 go_enter Try.func98,Try.ntmps98
 go_wp2_with (first|((with_reducible refine gate_dst (N:=5) rfl ?_);refine box_event ?hg (N:=5) ?hd (cs:= #[.int .u16 fH,.int .u16 fJ,.int .u16 fF,.slice pI jH.length pJ]) (t:=83) ?hr ?_;(case hd=>rfl);(case hg=>rfl);(case hr=>first|(go_simp;done)|(go_simp;rfl));intro Nw hg w8 hbox hb;have ay:=Aside0.mk (ag (bz HB) hb);have aC:=Aside0.mk (hbox);have bg:=Aside0.mk ((by rw [hg];exact (below_size (bz HB)):w.heap.size<=Nw));have dm:=Aside0.mk ((by rw [hg];exact (below_size (bz HB)):w.heap.size<=Nw));clear HB;have HB:=ay;have zA:=aC;have AwM:=bg;have AwN:=dm;clear ay aC bg dm;clear hb hbox hg;have Kt:w8.cell? ⟨Nw,0,none⟩=some (.int .u16 fH):=cz zA.out 0 rfl;have Ku:w8.cell? ⟨Nw,1,none⟩=some (.int .u16 fJ):=cz zA.out 1 rfl;have Kv:w8.cell? ⟨Nw,2,none⟩=some (.int .u16 fF):=cz zA.out 2 rfl;have Kw:w8.cell? ⟨Nw,3,none⟩=some (.slice pI jH.length pJ):=cz zA.out 3 rfl;have Ky:=blk_frozen zA.out 0;have Kz:=blk_frozen zA.out 1;have KA:=blk_frozen zA.out 2;have KC:=blk_frozen zA.out 3)|((with_reducible refine ai (f:=108) rfl ?_);refine gL 12 Try.func108 #[.agg #[.int .u16 fH,.int .u16 fJ,.int .u16 fF,.slice pI jH.length pJ]] ?_;(with_reducible refine (ug.calls fH fJ fF _ _ jH QV ZR _ ?au ?ax A4.out).mono ?_);(case au=>exact Kd.aJ Di.out (bz HB));(case ax=>exact Dj.out);rintro e w10 ⟨AyV,rfl,ho0,hb⟩;refine ⟨_,rfl, ?_⟩;have ay:=Aside0.mk (Kd.R_lower ho0 (below_size (bz HB)));have aC:=Aside0.mk (aZ (kz zA) hb);have bg:=Aside0.mk (ag (bz HB) hb);clear zA;clear HB;have Ny:=ay;have zA:=aC;have HB:=bg;clear ay aC bg;(try clear hb);(try clear hb2);(try clear hk);(try clear hi);(try clear ho0);obtain ⟨Ail,Aim,Ain⟩:=Kd.dN Ny.out;subst Ain)|((with_reducible refine ai (f:=121) rfl ?_);refine gL 19 Try.func121 #[.int .u32 a0,.int .u32 a1,.int .u8 17,.int .i64 (QV.length:Int)] ?_;(with_reducible refine (nX.calls k a0 a1 17 (QV.length:Int) MR _ A5.out).mono ?_);rintro e w' ⟨rfl,⟨nd,rfl⟩⟩;refine ⟨_,rfl, ?_⟩)|((with_reducible refine ai (f:=116) rfl ?_);refine gL 21 Try.func116 #[.int .u32 MR,.slice Ail QV.length Aim] ?_;(with_reducible refine (jw.calls k MR _ _ QV IQ _ ?au ?ax A6.out).mono ?_);(case au=>repeat (first|exact (Kd.R_reads' Ny.out).2.2|(with_reducible refine Kd.iL ?_ _)|(with_reducible refine Kd.iD ?_ _)|(with_reducible refine Kd.jE ?_)));(case ax=>exact (Kd.R_reads' Ny.out).2.1);rintro e w12 ⟨rfl,hb⟩;refine ⟨_,rfl, ?_⟩;have ay:=Aside0.mk (Kd.jd (Kd.rz Ny) hb);have aC:=Aside0.mk (aZ (kz zA) hb);have bg:=Aside0.mk (ag (bz HB) hb);clear Ny;clear zA;clear HB;have Ny:=ay;have zA:=aC;have HB:=bg;clear ay aC bg;(try clear hb);(try clear hb2);(try clear hk);(try clear hi))|((with_reducible refine ai (f:=115) rfl ?_);refine gL 22 Try.func115 #[.int .u32 IQ] ?_;(with_reducible refine (fP.calls k IQ IU _ A7.out).mono ?_);rintro e w' ⟨rfl,⟨nd,rfl⟩⟩;refine ⟨_,rfl, ?_⟩))
 go_ret2
 exact ⟨by first|rfl|(simp [ae,af]<;>rfl)|(simp [*,ae,af]<;>rfl),bz HB⟩
attribute [local go_sem] dV dW gI gJ dG dH dX dY
def uT.f (k:Nat) (a0:Int) (a1:Int) (fH:Int) (fJ:Int) (fF:Int) (jH:List Int):Option (Bool):=if fF=0 then (some true) else ((uh.f k a0 a1 fH fJ fF jH).bind fun QW=>(if QW.2=true then (some (QW.1==65535)) else (some false)))
theorem uT.calls (k:Nat) (a0:Int) (a1:Int) (fH:Int) (fJ:Int) (fF:Int) (pI:Option Addr) (pJ:Nat) (jH:List Int) (r:Bool) (w:World) (Df:Kd.C (Kd.int .u8) w pI jH.length jH) (Dh:jH.length<=pJ) (h:uT.f k a0 a1 fH fJ fF jH=some r):
  Calls Try.prog 59 #[.int .u32 a0,.int .u32 a1,.agg #[.int .u16 fH,.int .u16 fJ,.int .u16 fF,.slice pI jH.length pJ]] w fun e w'=>e= .returned (.bool r) /\ Below w.heap.size w w':=by
 have F7:=Try.underlying83;have Di:=Aside0.mk Df;have Dj:=Aside0.mk Dh;clear Df Dh;have HB:=jy w;have H:(if fF=0 then (some true) else ((uh.f k a0 a1 fH fJ fF jH).bind fun QW=>(if QW.2=true then (some (QW.1==65535)) else (some false))))=some r:=h;clear h
 by_cases c4:fF=0
 ·rw [ah c4] at H
  have qE:(fF==0)=true:=jf c4;have Eh:(fF !=0)=false:=oM c4;clear c4;obtain rfl:=eF H
  go_enter Try.func59,Try.ntmps59
  go_wp2_with (first|((with_reducible refine gate_dst (N:=5) rfl ?_);refine box_event ?hg (N:=5) ?hd (cs:= #[.int .u16 fH,.int .u16 fJ,.int .u16 fF,.slice pI jH.length pJ]) (t:=83) ?hr ?_;(case hd=>rfl);(case hg=>rfl);(case hr=>first|(go_simp;done)|(go_simp;rfl));intro uU hg w5 hbox hb;have ay:=Aside0.mk (ag (bz HB) hb);have aC:=Aside0.mk (hbox);have bg:=Aside0.mk ((by rw [hg];exact (below_size (bz HB)):w.heap.size<=uU));have dm:=Aside0.mk ((by rw [hg];exact (below_size (bz HB)):w.heap.size<=uU));clear HB;have HB:=ay;have oD:=aC;have Afb:=bg;have Afc:=dm;clear ay aC bg dm;clear hb hbox hg;have OB:w5.cell? ⟨uU,0,none⟩=some (.int .u16 fH):=cz oD.out 0 rfl;have OC:w5.cell? ⟨uU,1,none⟩=some (.int .u16 fJ):=cz oD.out 1 rfl;have OD:w5.cell? ⟨uU,2,none⟩=some (.int .u16 fF):=cz oD.out 2 rfl;have OE:w5.cell? ⟨uU,3,none⟩=some (.slice pI jH.length pJ):=cz oD.out 3 rfl;have OG:=blk_frozen oD.out 0;have OH:=blk_frozen oD.out 1;have OI:=blk_frozen oD.out 2;have OJ:=blk_frozen oD.out 3))
  go_ret
  exact ⟨by first|rfl|(simp [ae,af]<;>rfl)|(simp [*,ae,af]<;>rfl),bz HB⟩
 ·rw [aj c4] at H
  have qE:(fF==0)=false:=iM c4;have Eh:(fF !=0)=true:=pq c4;replace H:=dM H;obtain ⟨⟨AcP,Amz⟩,Iq,H⟩:=H;replace H:(if Amz=true then (some (AcP==65535)) else (some false))=some r:=H;have A7:=Aside0.mk Iq;clear Iq
  by_cases c8:Amz=true
  ·subst c8
   have H1:(some (AcP==65535))=some r:=by rw [ah rfl] at H;exact H
   clear H;have H:=H1;clear H1;obtain rfl:=eF H
   go_enter Try.func59,Try.ntmps59
   go_wp2_with (first|((with_reducible refine gate_dst (N:=5) rfl ?_);refine box_event ?hg (N:=5) ?hd (cs:= #[.int .u16 fH,.int .u16 fJ,.int .u16 fF,.slice pI jH.length pJ]) (t:=83) ?hr ?_;(case hd=>rfl);(case hg=>rfl);(case hr=>first|(go_simp;done)|(go_simp;rfl));intro uU hg w9 hbox hb;have ay:=Aside0.mk (ag (bz HB) hb);have aC:=Aside0.mk (hbox);have bg:=Aside0.mk ((by rw [hg];exact (below_size (bz HB)):w.heap.size<=uU));have dm:=Aside0.mk ((by rw [hg];exact (below_size (bz HB)):w.heap.size<=uU));clear HB;have HB:=ay;have oD:=aC;have Afb:=bg;have Afc:=dm;clear ay aC bg dm;clear hb hbox hg;have zk:w9.cell? ⟨uU,0,none⟩=some (.int .u16 fH):=cz oD.out 0 rfl;have zl:w9.cell? ⟨uU,1,none⟩=some (.int .u16 fJ):=cz oD.out 1 rfl;have zn:w9.cell? ⟨uU,2,none⟩=some (.int .u16 fF):=cz oD.out 2 rfl;have zo:w9.cell? ⟨uU,3,none⟩=some (.slice pI jH.length pJ):=cz oD.out 3 rfl;have zq:=blk_frozen oD.out 0;have zu:=blk_frozen oD.out 1;have zx:=blk_frozen oD.out 2;have zy:=blk_frozen oD.out 3)|((with_reducible refine ai (f:=98) rfl ?_);refine gL 16 Try.func98 #[.int .u32 a0,.int .u32 a1,.agg #[.int .u16 fH,.int .u16 fJ,.int .u16 fF,.slice pI jH.length pJ]] ?_;(with_reducible refine (uh.calls k a0 a1 fH fJ fF _ _ jH AcP true _ ?au ?ax A7.out).mono ?_);(case au=>exact Kd.aJ Di.out (bz HB));(case ax=>exact Dj.out);rintro e w11 ⟨rfl,hb⟩;refine ⟨_,rfl, ?_⟩;have ay:=Aside0.mk (aZ (kz oD) hb);have aC:=Aside0.mk (ag (bz HB) hb);clear oD;clear HB;have oD:=ay;have HB:=aC;clear ay aC;(try clear hb);(try clear hb2);(try clear hk);(try clear hi)))
   go_ret
   exact ⟨by first|rfl|(simp [ae,af]<;>rfl)|(simp [*,ae,af]<;>rfl),bz HB⟩
  ·replace c8:=FT c8
   subst c8;have H1:(some false)=some r:=by rw [aj (show ¬ (false=true) by decide)] at H;exact H
   clear H;have H:=H1;clear H1;obtain rfl:=eF H
   go_enter Try.func59,Try.ntmps59
   go_wp2_with (first|((with_reducible refine gate_dst (N:=5) rfl ?_);refine box_event ?hg (N:=5) ?hd (cs:= #[.int .u16 fH,.int .u16 fJ,.int .u16 fF,.slice pI jH.length pJ]) (t:=83) ?hr ?_;(case hd=>rfl);(case hg=>rfl);(case hr=>first|(go_simp;done)|(go_simp;rfl));intro uU hg w12 hbox hb;have ay:=Aside0.mk (ag (bz HB) hb);have aC:=Aside0.mk (hbox);have bg:=Aside0.mk ((by rw [hg];exact (below_size (bz HB)):w.heap.size<=uU));have dm:=Aside0.mk ((by rw [hg];exact (below_size (bz HB)):w.heap.size<=uU));clear HB;have HB:=ay;have oD:=aC;have Afb:=bg;have Afc:=dm;clear ay aC bg dm;clear hb hbox hg;have OL:w12.cell? ⟨uU,0,none⟩=some (.int .u16 fH):=cz oD.out 0 rfl;have OM:w12.cell? ⟨uU,1,none⟩=some (.int .u16 fJ):=cz oD.out 1 rfl;have OO:w12.cell? ⟨uU,2,none⟩=some (.int .u16 fF):=cz oD.out 2 rfl;have OQ:w12.cell? ⟨uU,3,none⟩=some (.slice pI jH.length pJ):=cz oD.out 3 rfl;have OT:=blk_frozen oD.out 0;have OU:=blk_frozen oD.out 1;have OV:=blk_frozen oD.out 2;have OW:=blk_frozen oD.out 3)|((with_reducible refine ai (f:=98) rfl ?_);refine gL 16 Try.func98 #[.int .u32 a0,.int .u32 a1,.agg #[.int .u16 fH,.int .u16 fJ,.int .u16 fF,.slice pI jH.length pJ]] ?_;(with_reducible refine (uh.calls k a0 a1 fH fJ fF _ _ jH AcP false _ ?au ?ax A7.out).mono ?_);(case au=>exact Kd.aJ Di.out (bz HB));(case ax=>exact Dj.out);rintro e w14 ⟨rfl,hb⟩;refine ⟨_,rfl, ?_⟩;have ay:=Aside0.mk (aZ (kz oD) hb);have aC:=Aside0.mk (ag (bz HB) hb);clear oD;clear HB;have oD:=ay;have HB:=aC;clear ay aC;(try clear hb);(try clear hb2);(try clear hk);(try clear hi)))
   go_ret
   exact ⟨by first|rfl|(simp [ae,af]<;>rfl)|(simp [*,ae,af]<;>rfl),bz HB⟩
attribute [local go_sem] dV dW gI gJ dG dH dX dY
def oh.f (k:Nat) (aI:Int) (aV:Int) (aX:Int) (iZ:List Int) (En:Int) (Eo:Int) (Ep:Int) (Es:Int) (Et:Int) (Eu:Int) (yA:Int) (yB:Int) (xI:List Int) (xJ:List Int):Option (Bool):=(uT.f k yA yB aI aV aX iZ).bind fun Xy=>(some Xy)
theorem oh.calls (k:Nat) (aI:Int) (aV:Int) (aX:Int) (wC:Option Addr) (wE:Nat) (iZ:List Int) (En:Int) (Eo:Int) (Ep:Int) (Es:Int) (Et:Int) (Eu:Int) (yA:Int) (yB:Int) (Hl:Option Addr) (Ho:Nat) (xI:List Int) (Hq:Option Addr) (Hr:Nat) (xJ:List Int) (r:Bool) (w:World) (C9:Kd.C (Kd.int .u8) w wC iZ.length iZ) (Dc:iZ.length<=wE) (Ir:Kd.C (Kd.int .u8) w Hl xI.length xI) (Iu:xI.length<=Ho) (Iw:Kd.C (Kd.int .u8) w Hq xJ.length xJ) (Iy:xJ.length<=Hr) (h:oh.f k aI aV aX iZ En Eo Ep Es Et Eu yA yB xI xJ=some r):
  Calls Try.prog 156 #[.agg #[.int .u16 aI,.int .u16 aV,.int .u16 aX,.slice wC iZ.length wE],.agg #[.int .u8 En,.int .u8 Eo,.int .u8 Ep,.int .u16 Es,.int .u8 Et,.int .u16 Eu,.int .u32 yA,.int .u32 yB,.slice Hl xI.length Ho,.slice Hq xJ.length Hr]] w fun e w'=>e= .returned (.bool r) /\ Below w.heap.size w w':=by
 have QX:=Try.underlying179;have hu73:=Try.underlying73;have F7:=Try.underlying83;have Nv:=Aside0.mk C9;have VN:=Aside0.mk Dc;clear C9 Dc;have Afd:=Aside0.mk Ir;have Afe:=Aside0.mk Iu;clear Ir Iu;have Aff:=Aside0.mk Iw;have Afg:=Aside0.mk Iy;clear Iw Iy;have HB:=jy w;have H:((uT.f k yA yB aI aV aX iZ).bind fun Xy=>(some Xy))=some r:=h;clear h;replace H:=dM H;obtain ⟨Xy,CB,H⟩:=H;replace H:(some Xy)=some r:=H;have A3:=Aside0.mk CB;clear CB;obtain rfl:=eF H
 go_enter Try.func156,Try.ntmps156
 go_wp2_with (first|((with_reducible refine gate_dst (N:=2) rfl ?_);refine box_event ?hg (N:=2) ?hd (cs:= #[.int .u16 aI,.int .u16 aV,.int .u16 aX,.slice wC iZ.length wE]) (t:=179) ?hr ?_;(case hd=>rfl);(case hg=>rfl);(case hr=>first|(go_simp;done)|(go_simp;rfl));intro EO hg w4 hbox hb;have ay:=Aside0.mk (ag (bz HB) hb);have aC:=Aside0.mk (hbox);have bg:=Aside0.mk ((by rw [hg];exact (below_size (bz HB)):w.heap.size<=EO));have dm:=Aside0.mk ((by rw [hg];exact (below_size (bz HB)):w.heap.size<=EO));clear HB;have HB:=ay;have yj:=aC;have AwO:=bg;have AwP:=dm;clear ay aC bg dm;clear hb hbox hg)|((with_reducible refine gate_dst (N:=3) rfl ?_);refine box_event ?hg (N:=3) ?hd (cs:= #[.int .u8 En,.int .u8 Eo,.int .u8 Ep,.int .u16 Es,.int .u8 Et,.int .u16 Eu,.int .u32 yA,.int .u32 yB,.slice Hl xI.length Ho,.slice Hq xJ.length Hr]) (t:=73) ?hr ?_;(case hd=>rfl);(case hg=>rfl);(case hr=>first|(go_simp;done)|(go_simp;rfl));intro zB hg w5 hbox hb;have ay:=Aside0.mk (aZ (kz yj) hb);have aC:=Aside0.mk (ag (bz HB) hb);have bg:=Aside0.mk (hbox);have dm:=Aside0.mk ((by rw [hg];exact (below_size (bz HB)):w.heap.size<=zB));have Ae:=Aside0.mk ((by rw [hg];exact (below_size (bz HB)):w.heap.size<=zB));have EP:=Aside0.mk ((by rw [hg];exact Nat.ne_of_lt (qG (g:=EO) (o:= .cells #[.int .u16 aI,.int .u16 aV,.int .u16 aX,.slice wC iZ.length wE] 179 (0,0)) (kz yj)):EO≠zB));have Iz:=Aside0.mk ((by rw [hg];exact Nat.ne_of_gt (qG (g:=EO) (o:= .cells #[.int .u16 aI,.int .u16 aV,.int .u16 aX,.slice wC iZ.length wE] 179 (0,0)) (kz yj)):zB≠EO));clear yj;clear HB;have yj:=ay;have HB:=aC;have sG:=bg;have AwQ:=dm;have AwR:=Ae;have Xz:=EP;have XA:=Iz;clear ay aC bg dm Ae EP Iz;clear hb hbox hg;have AmA:=XA.out;have AmB:=Xz.out;have AZ:w5.cell? ⟨zB,0,none⟩=some (.int .u8 En):=cz sG.out 0 rfl;have Ba:w5.cell? ⟨zB,1,none⟩=some (.int .u8 Eo):=cz sG.out 1 rfl;have Bc:w5.cell? ⟨zB,2,none⟩=some (.int .u8 Ep):=cz sG.out 2 rfl;have Bd:w5.cell? ⟨zB,3,none⟩=some (.int .u16 Es):=cz sG.out 3 rfl;have CX:w5.cell? ⟨zB,4,none⟩=some (.int .u8 Et):=cz sG.out 4 rfl;have ZT:w5.cell? ⟨zB,5,none⟩=some (.int .u16 Eu):=cz sG.out 5 rfl;have ZU:w5.cell? ⟨zB,6,none⟩=some (.int .u32 yA):=cz sG.out 6 rfl;have ZV:w5.cell? ⟨zB,7,none⟩=some (.int .u32 yB):=cz sG.out 7 rfl;have ZW:w5.cell? ⟨zB,8,none⟩=some (.slice Hl xI.length Ho):=cz sG.out 8 rfl;have ZX:w5.cell? ⟨zB,9,none⟩=some (.slice Hq xJ.length Hr):=cz sG.out 9 rfl;have Be:=blk_frozen sG.out 0;have Bf:=blk_frozen sG.out 1;have Bg:=blk_frozen sG.out 2;have Bh:=blk_frozen sG.out 3;have CY:=blk_frozen sG.out 4;have ZY:=blk_frozen sG.out 5;have ZZ:=blk_frozen sG.out 6;have Z4:=blk_frozen sG.out 7;have Z5:=blk_frozen sG.out 8;have Z7:=blk_frozen sG.out 9;have Ug:w5.cell? ⟨EO,0,none⟩=some (.int .u16 aI):=cz yj.out 0 rfl;have Uh:w5.cell? ⟨EO,1,none⟩=some (.int .u16 aV):=cz yj.out 1 rfl;have Ui:w5.cell? ⟨EO,2,none⟩=some (.int .u16 aX):=cz yj.out 2 rfl;have Uj:w5.cell? ⟨EO,3,none⟩=some (.slice wC iZ.length wE):=cz yj.out 3 rfl;have Uk:=blk_frozen yj.out 0;have Ul:=blk_frozen yj.out 1;have Um:=blk_frozen yj.out 2;have Un:=blk_frozen yj.out 3)|((with_reducible refine ai (f:=59) rfl ?_);refine gL 11 Try.func59 #[.int .u32 yA,.int .u32 yB,.agg #[.int .u16 aI,.int .u16 aV,.int .u16 aX,.slice wC iZ.length wE]] ?_;(with_reducible refine (uT.calls k yA yB aI aV aX _ _ iZ Xy _ ?au ?ax A3.out).mono ?_);(case au=>exact Kd.aJ Nv.out (bz HB));(case ax=>exact VN.out);rintro e w9 ⟨rfl,hb⟩;refine ⟨_,rfl, ?_⟩;have ay:=Aside0.mk (aZ (kz yj) hb);have aC:=Aside0.mk (aZ (kz sG) hb);have bg:=Aside0.mk (ag (bz HB) hb);clear yj;clear sG;clear HB;have yj:=ay;have sG:=aC;have HB:=bg;clear ay aC bg;(try clear hb);(try clear hb2);(try clear hk);(try clear hi)))
 go_ret
 exact ⟨by first|rfl|(simp [ae,af]<;>rfl)|(simp [*,ae,af]<;>rfl),bz HB⟩
attribute [local go_sem] dV dW gI gJ dG dH dX dY
def jB.f (l0:List Int) (a1:Int):Option (List Int):=if 0<=a1 then (if a1<70368744177664 then some [] else none) else none
theorem jB.calls (A0:Option Addr) (c0:Nat) (l0:List Int) (a1:Int) (r:List Int) (w:World) (hr0:Kd.C (Kd.int .u8) w A0 l0.length l0) (hc0:l0.length<=c0) (h:jB.f l0 a1=some r) (hA:A0=none /\ c0=0:=by exact ⟨rfl,rfl⟩):
    Calls Try.prog 132 #[.slice A0 l0.length c0,.int .i64 a1] w fun e w'=>∃ uP:Value,e= .returned (uP) /\ Kd.R (Kd.int .u8) 5 w' w.heap.size (fun _=>True) uP r /\ Below w.heap.size w w':=by
  unfold jB.f at h
  obtain ⟨rfl,rfl⟩:=hA;have hl:l0=[]:=List.length_eq_zero_iff.1 (Nat.le_zero.1 hc0);subst hl
  by_cases c1:0<=a1
  · rw [ah c1] at h
    by_cases c2:a1<70368744177664
    · rw [ah c2] at h
      obtain rfl:=eF h;clear h hr0 hc0;have n1:decide (a1<0)=false:=jC (by omega);have n2:wrap64 (a1 - wrap64 (0 - 0))=a1:=by unfold wrap64;omega
      have HB:=jy w
      by_cases c3:0<a1
      · have n3:decide (0<a1)=true:=bJ c3
        obtain ⟨i0,hi0,_,_,_⟩:=info_parts info5;have hN:=Kd.bV (Kd.int .u8) 5 w w.heap.size (fun _=>True);have Afh:=TR (P:=Try.prog) 23 5 .i64 Try.underlying23 hi0 none 0 0 0 (Int.le_refl _) (Int.le_refl _) (Nat.le_refl _);replace Afh:∀ W:World,(Instr.slice 23 (.slice none 0 0) none (some (.int .i64 0)) none).run Try.prog W= .ok (.slice none 0 0) W:=Afh
        go_enter Try.func132,Try.ntmps132
        go_wp2_with (first
         |((with_reducible refine iF (b:= .append) (xs:= #[.tmp 20,.tmp 21]) rfl ?_);at_builtin;refine Kd.JS (Kd.int .u8) (w0:=w) w.heap.size rfl (.tmp 20) (.tmp 21) 23 3 5 (.int .u8 0) 1 rfl Try.underlying23 Try.underlying3 info5 rfl (by decide) (by decide) (.slice none 0 0) ([]:List Int) 0 a1 (fun _=>True) rfl rfl rfl (fun _ _=>trivial) ?aO c1 ?aB (below_size ?aB) ?aL ?_;(case aO=>first|exact hN|exact Kd.iq hN|exact Kd.gV hN _);(case aB=>first|exact Below.refl _ _|exact below_drew1 (Below.refl _ _));(case aL=>simp;omega);intro v2 w2 ho hb hg hat;clear hg hat;obtain ⟨A2,c2_,e2,hlc,_⟩:=Kd.R_reads ho;subst e2;have HB2:=Aside0.mk hb;have HO2:=Aside0.mk ho;clear ho;have VC:=TR (P:=Try.prog) 23 5 .i64 Try.underlying23 hi0 A2 (([]:List Int)++List.replicate a1.toNat 0).length c2_ 0 (Int.le_refl _) (by omega) hlc;clear hlc;clear hb))
        go_ret
        exact ⟨_,rfl,Kd.AgP (m:=0) HO2.out (Nat.zero_le _),HB2.out⟩
      · have n3:decide (0<a1)=false:=jC c3
        go_enter Try.func132,Try.ntmps132
        go_wp2
        go_ret
        exact ⟨_,rfl,Kd.bV _ _ _ _ _,Below.refl _ _⟩
    · rw [aj c2] at h
      cases h
  · rw [aj c1] at h
    cases h
mutual
def aT.l0:Nat ->List (List Int) ->Int ->List (List Int) ->Int ->Int ->Option (List Int)
  |0,_,_,_,_,_=>none
  |k+1,x0,x3,x9,x10,x11=>if x11<x10 then (if 0<=x11 then (if x11<(x9.length:Int) then (if (wrap64 (x3+((wY x9 x11).length:Int)))<0 then (none) else (aT.l0 k x0 (wrap64 (x3+((wY x9 x11).length:Int))) x9 x10 (wrap64 (x11+1)))) else (none)) else (none)) else ((jB.f ([]:List Int) x3).bind fun Z8=>(aT.l1 k Z8 x0 (x0.length:Int) 0))
def aT.l1:Nat ->List Int ->List (List Int) ->Int ->Int ->Option (List Int)
  |0,_,_,_,_=>none
  |k+1,x6,x25,x26,x27=>if x27<x26 then (if 0<=x27 then (if x27<(x25.length:Int) then (if x6.length+(wY x25 x27).length<140737488355328 then (aT.l1 k (x6++(wY x25 x27)) x25 x26 (wrap64 (x27+1))) else (none)) else (none)) else (none)) else (some x6)
end
def aT.f (k:Nat) (l0:List (List Int)):Option (List Int):=aT.l0 k l0 0 l0 (l0.length:Int) 0
theorem aT.calls (k:Nat) (A0:Option Addr) (c0:Nat) (l0:List (List Int)) (r:List Int) (w:World) (hr0:Kd.C (Kd.slice 5 (Kd.int .u8)) w A0 l0.length l0) (hc0:l0.length<=c0) (h:aT.f k l0=some r):
    Calls Try.prog 127 #[.slice A0 l0.length c0] w fun e w'=>∃ uP:Value,e= .returned (uP) /\ Kd.R (Kd.int .u8) 5 w' w.heap.size (fun _=>True) uP r /\ Below w.heap.size w w':=by
  have HR0:=Aside0.mk hr0;have mg:=Aside0.mk hc0;clear hr0 hc0;have HB:=jy w;have H:(aT.l0 k l0 0 l0 (l0.length:Int) 0)=some r:=h;clear h;have H':=Aside0.mk H;clear H
  go_enter Try.func127,Try.ntmps127
  go_wp2
  go_loopg [3,11] k (fun kq v3 v11 w'=>∃ (sF:Int) (xe:Int),v3= .int .i64 sF /\ v11= .int .i64 xe /\ Aside0 (aT.l0 kq l0 sF l0 (l0.length:Int) xe=some r) /\ Aside0 (kq<=k) /\ Aside0 (Below w.heap.size w w'))
  case atStart=>exact ⟨(0),(0),(by first|rfl|(simp;done)|(simp [*];done)),(by first|rfl|(simp;done)|(simp [*];done)),H',⟨Nat.le_refl _⟩,⟨bz HB⟩⟩
  case round=>
    clear H';obtain ⟨sF,xe,rfl,rfl,HA,Ff,HB⟩:=hrel
    cases gk with
    |zero=>exact absurd HA.out (by simp [aT.l0])
    |succ k1=>
      have H:=HA.out;clear HA;simp only [aT.l0] at H
      by_cases c2:xe<(l0.length:Int)
      · rw [ah c2] at H
        have nV:decide (xe<(l0.length:Int))=true:=bJ c2;clear c2
        by_cases c3:0<=xe
        · rw [ah c3] at H
          have tY:decide (0<=xe)=true:=bJ c3;clear c3
          by_cases c4:xe<(l0.length:Int)
          · rw [ah c4] at H
            have qE:decide (xe<(l0.length:Int))=true:=bJ c4;clear c4
            by_cases c5:(wrap64 (sF+((wY l0 xe).length:Int)))<0
            · rw [ah c5] at H
              cases H
            · rw [aj c5] at H
              have qR:decide ((wrap64 (sF+((wY l0 xe).length:Int)))<0)=false:=jC c5;clear c5;have H':=Aside0.mk H;clear H;have Aio:0<=(xe:Int):=je;have Aip:xe<(l0.length:Int):=je;obtain ⟨AwS,AtM,AtN,AtO,OX,VO,VP⟩:=AeI HR0.out xe Aio Aip
              cases AtO
              replace OX:=(HB.out.cell (dS w _ OX)).trans OX;have Ap7:=Aside0.mk VP;have Ap8:=Aside0.mk VO;clear VP VO;replace Aio:=eq_true Aio;replace Aip:=eq_true Aip
              go_wp2
              go_roundg k1
              case measure=>have:=Ff.out;omega
              case rel=>exact ⟨(wrap64 (sF+((wY l0 xe).length:Int))),(wrap64 (xe+1)),(by first|rfl|(simp;done)|(simp [*];done)),(by first|rfl|(simp;done)|(simp [*];done)),H',⟨by have:=Ff.out;omega⟩,⟨bz HB⟩⟩
          · rw [aj c4] at H
            cases H
        · rw [aj c3] at H
          cases H
      · rw [aj c2] at H
        have nV:decide (xe<(l0.length:Int))=false:=jC c2;clear c2;replace H:=dM H;obtain ⟨Z8,Ce,H⟩:=H;replace H:(aT.l1 k1 Z8 l0 (l0.length:Int) 0)=some r:=H;have A6:=Aside0.mk Ce;clear Ce;have H':=Aside0.mk H;clear H
        go_wp2_with (first|(go_at_call 132;(with_reducible show Calls _ _ #[.slice none 0 0,_] _ _);(refine (jB.calls _ _ ([]:List Int) sF Z8 _ ?au ?ax A6.out).mono ?_);(case au=>exact Kd.JM _ _);(case ax=>exact Nat.le_refl _);rintro e w7 ⟨AyX,rfl,ho0,hb⟩;have ay:=Aside0.mk (Kd.R_lower ho0 (below_size (bz HB)));have aC:=Aside0.mk (ag (bz HB) hb);clear HB;have AmC:=ay;have HB:=aC;clear ay aC;(try clear hb);(try clear hb2);(try clear hk);(try clear hi);(try clear ho0)))
        go_loopg [6,27] k1 (fun kq v6 v27 w'=>∃ (XB:List Int) (wJ:Int),v27= .int .i64 wJ /\ Aside0 (aT.l1 kq XB l0 (l0.length:Int) wJ=some r) /\ Aside0 (kq<=k1) /\ Aside0 (Kd.R (Kd.int .u8) 5 w' w.heap.size (fun _=>True) v6 XB) /\ Aside0 (Below w.heap.size w w'))
        case atStart=>exact ⟨(Z8),(0),(by first|rfl|(simp;done)|(simp [*];done)),H',⟨Nat.le_refl _⟩,⟨Kd.rz AmC⟩,⟨bz HB⟩⟩
        case round=>
          clear H'
          try clear c2
          try clear nV
          obtain ⟨XB,wJ,rfl,HA,HK2,KD,HB⟩:=hrel
          cases gk with
          |zero=>exact absurd HA.out (by simp [aT.l1])
          |succ k2=>
            have H:=HA.out;clear HA;simp only [aT.l1] at H
            by_cases c8:wJ<(l0.length:Int)
            · rw [ah c8] at H
              have uf:decide (wJ<(l0.length:Int))=true:=bJ c8;clear c8
              by_cases c9:0<=wJ
              · rw [ah c9] at H
                have CW:decide (0<=wJ)=true:=bJ c9;clear c9
                by_cases c10:wJ<(l0.length:Int)
                · rw [ah c10] at H
                  have Aa:decide (wJ<(l0.length:Int))=true:=bJ c10;clear c10
                  by_cases c11:XB.length+(wY l0 wJ).length<140737488355328
                  · rw [ah c11] at H
                    have Zu:=Aside0.mk c11;clear c11;obtain ⟨AmD,QY⟩:∃ y_:List Int,y_=(XB++(wY l0 wJ)):=⟨_,rfl⟩
                    replace H:(aT.l1 k2 AmD l0 (l0.length:Int) (wrap64 (wJ+1)))=some r:=by first|(rw [QY];with_reducible exact H)|(have oO:=(bG _ _).symm.trans H;rw [QY];with_reducible exact oO)|(have oO:=(bG _ _).symm.trans H;with_reducible exact oO)|with_reducible exact H|(rw [QY];exact H)|exact H
                    have AmE:=Aside0.mk QY;clear QY;have H':=Aside0.mk H;clear H;have Aiq:0<=(wJ:Int):=je;have Air:wJ<(l0.length:Int):=je;obtain ⟨AwT,AtP,AtQ,AtR,OY,VQ,VR⟩:=AeI HR0.out wJ Aiq Air
                    cases AtR
                    replace OY:=(HB.out.cell (dS w _ OY)).trans OY;have AcR:=Aside0.mk VR;have Ap9:=Aside0.mk VQ;clear VR VQ;replace Aiq:=eq_true Aiq;replace Air:=eq_true Air
                    go_wp2_with (first|((with_reducible refine iF (b:= .append) (xs:= #[.tmp 31,.tmp 32]) rfl ?_);at_builtin;refine Kd.jv (Kd.int .u8) (w0:=w) w.heap.size rfl (.tmp 31) (.tmp 32) 23 5 (.int .u8 0) 1 rfl Try.underlying23 info5 rfl (by decide) (by omega) u6 XB (wY l0 wJ) _ _ _ (fun _=>True) (fun _=>False) rfl rfl ?aO ?aR (fun _ _ h=>h) (fun _ h=>h.elim) ?aF ?aB ?aS ?aL ?_;(case aR=>exact Kd.aJ AcR.out (bz HB));(case aB=>exact bz HB);(case aF=>exact (fun _ _=>trivial));(case aO=>exact (Kd.rz KD));(case aS=>exact (below_size (bz HB)));(case aL=>have:=Zu.out;omega);intro v107 w12 ho hb hg hat;rw [<- AmE.out] at ho;have ay:=Aside0.mk (hb);have aC:=Aside0.mk (ho);clear HB;clear KD;have HB:=ay;have AmF:=aC;clear ay aC;clear ho hb hg hat))
                    go_roundg k2
                    case measure=>have:=Ff.out;have:=HK2.out;omega
                    case rel=>exact ⟨(AmD),(wrap64 (wJ+1)),(by first|rfl|(simp;done)|(simp [*];done)),H',⟨by have:=Ff.out;have:=HK2.out;omega⟩,⟨Kd.rz AmF⟩,⟨bz HB⟩⟩
                  · rw [aj c11] at H
                    cases H
                · rw [aj c10] at H
                  cases H
              · rw [aj c9] at H
                cases H
            · rw [aj c8] at H
              have uf:decide (wJ<(l0.length:Int))=false:=jC c8;clear c8;obtain rfl:=eF H
              go_wp2
              go_ret
              exact ⟨_,by first|rfl|(simp [ae,af]<;>rfl)|(simp [*,ae,af]<;>rfl),by (with_reducible repeat (first|apply Kd.ik|apply Kd.gV|apply Kd.iq));exact KD.out,bz HB⟩
attribute [local go_sem] dV dW gI gJ dG dH dX dY
mutual
def gZ.j0:Nat ->Bool ->Int ->Int ->Int ->Int ->Int ->Int ->Int ->Int ->List Int ->List Int ->Option (List Int×Int)
 |0,_,_,_,_,_,_,_,_,_,_,_=>none
 |k+1,x7,Gi,Gj,Ji,Jj,Jk,Gl,Gm,Gn,DV,Gp=>if x7=true then (some (([]:List Int),21)) else (if (wrap64 ((wrap64 (20+(DV.length:Int)))+(Gp.length:Int)))>65515 then (some (([]:List Int),23)) else ((some (([Ji,Jj]:List Int):List Int)).bind fun mF=>(gZ.l0 k (([(Gi / 256) % 256,(Gi) % 256,(Gj / 256) % 256,(Gj) % 256]:List Int)) mF (mF.length:Int) 0 Gi Gj Ji Jj Jk Gl Gm Gn DV Gp)))
def gZ.l0:Nat ->List Int ->List Int ->Int ->Int ->Int ->Int ->Int ->Int ->Int ->Int ->Int ->Int ->List Int ->List Int ->Option (List Int×Int)
 |0,_,_,_,_,_,_,_,_,_,_,_,_,_,_=>none
 |k+1,x4,x48,x49,x50,Gi,Gj,Ji,Jj,Jk,Gl,Gm,Gn,DV,Gp=>if x50<x49 then (if 0<=x50 then (if x50<(x48.length:Int) then ((some (([((rd x48 x50) / 16777216) % 256,((rd x48 x50) / 65536) % 256,((rd x48 x50) / 256) % 256,(rd x48 x50) % 256]:List Int):List Int)).bind fun KE=>(if x4.length+KE.length<140737488355328 then (gZ.l0 k (x4++KE) x48 x49 (wrap64 (x50+1)) Gi Gj Ji Jj Jk Gl Gm Gn DV Gp) else (none))) else (none)) else (none)) else ((some (([((((wrap64 (20+(DV.length:Int))) % 256) / 4)*16) % 256,Jk,(Gl / 256) % 256,(Gl) % 256,(Gm / 256) % 256,(Gm) % 256,(Gn / 256) % 256,(Gn) % 256]:List Int):List Int)).bind fun Af=>(if x4.length+Af.length<140737488355328 then ((aT.f k (([(x4++Af),DV,Gp]:List (List Int)))).bind fun XC=>(some (XC,0))) else (none)))
end
def gZ.f (k:Nat) (aI:Int) (aV:Int) (aX:Int) (bn:Int) (eP:Int) (eX:Int) (fC:Int) (fD:Int) (bD:List Int) (dw:List Int):Option (List Int×Int):=if ((bD.length:Int) % 4)=0 then (gZ.j0 k (decide ((bD.length:Int)>40)) aI aV aX bn eP eX fC fD bD dw) else (gZ.j0 k true aI aV aX bn eP eX fC fD bD dw)
theorem gZ.calls (k:Nat) (aI:Int) (aV:Int) (aX:Int) (bn:Int) (eP:Int) (eX:Int) (fC:Int) (fD:Int) (uV:Nat ->Prop) (lX:Option Addr) (lY:Nat) (bD:List Int) (uX:Nat ->Prop) (lZ:Option Addr) (l7:Nat) (dw:List Int) (r1:List Int) (r2:Int) (w:World) (AmG:Kd.V (Kd.int .u8) 5 w w.heap.size (fun k_=>uV k_) (.slice lX bD.length lY) bD) (AmH:Kd.V (Kd.int .u8) 5 w w.heap.size (fun k_=>uX k_) (.slice lZ dw.length l7) dw) (h:gZ.f k aI aV aX bn eP eX fC fD bD dw=some (r1,r2)):
  Calls Try.prog 110 #[.agg #[.int .u16 aI,.int .u16 aV,.int .u32 aX,.int .u32 bn,.int .u8 eP,.int .u16 eX,.int .u16 fC,.int .u16 fD,.slice lX bD.length lY,.slice lZ dw.length l7]] w fun e w'=>∃ uP:Value,e= .returned (.tuple #[uP,.int .i64 r2]) /\ Kd.R (Kd.int .u8) 5 w' w.heap.size (fun k_=>(w.heap.size<=k_)) uP r1 /\ Below w.heap.size w w':=by
 have Ag:=Try.underlying137;have QZ:=Aside0.mk (show Kd.V (Kd.int .u8) 5 w w.heap.size (fun k_=>((uV k_ \/ uX k_) \/ w.heap.size<=k_)) (.slice lX bD.length lY) bD from Kd.vH AmG (fun k_ hk=> .inl (.inl hk)));have Q9:=Aside0.mk (show Kd.V (Kd.int .u8) 5 w w.heap.size (fun k_=>((uV k_ \/ uX k_) \/ w.heap.size<=k_)) (.slice lZ dw.length l7) dw from Kd.vH AmH (fun k_ hk=> .inl (.inr hk)));have HB:=jy w;have H:(if ((bD.length:Int) % 4)=0 then (gZ.j0 k (decide ((bD.length:Int)>40)) aI aV aX bn eP eX fC fD bD dw) else (gZ.j0 k true aI aV aX bn eP eX fC fD bD dw))=some (r1,r2):=h;clear h;have HC2:=Aside0.mk H;clear H
 go_enter Try.func110,Try.ntmps110
 go_upto_region 1 with (first|((with_reducible refine gate_dst (N:=1) rfl ?_);(try (refine eH (by rfl) ?_;dsimp only));refine box_event ?hg (N:=1) ?hd (cs:= #[.int .u16 aI,.int .u16 aV,.int .u32 aX,.int .u32 bn,.int .u8 eP,.int .u16 eX,.int .u16 fC,.int .u16 fD,.slice lX bD.length lY,.slice lZ dw.length l7]) (t:=137) ?hr ?_;(case hd=>rfl);(case hg=>rfl);(case hr=>first|(go_simp;done)|(go_simp;rfl));intro kM hg w3 hbox hb;have ay:=Aside0.mk (Kd.Jd (Kd.Qp (by (with_reducible repeat (first|apply Kd.kK|apply Kd.kL|apply Kd.nH));exact QZ.out) kM (Nat.le_of_eq hg.symm)) hb);have aC:=Aside0.mk (Kd.Jd (Kd.Qp (by (with_reducible repeat (first|apply Kd.kK|apply Kd.kL|apply Kd.nH));exact Q9.out) kM (Nat.le_of_eq hg.symm)) hb);have bg:=Aside0.mk (ag (bz HB) hb);have dm:=Aside0.mk (hbox);have Ae:=Aside0.mk ((by rw [hg];exact (below_size (bz HB)):w.heap.size<=kM));have EP:=Aside0.mk ((by rw [hg];exact (below_size (bz HB)):w.heap.size<=kM));clear QZ;clear Q9;clear HB;have QZ:=ay;have Q9:=aC;have HB:=bg;have dA:=dm;have AwV:=Ae;have AwW:=EP;clear ay aC bg dm Ae EP;clear hb hbox hg))
 (try simp only [Act.put,List.setIfInBounds_toArray,List.set_cons_zero,List.set_cons_succ])
 go_cut [7] (fun v7 wc=>∃ (kq:Nat) (xg:Bool),v7= .bool xg /\ Aside0 (gZ.j0 kq xg aI aV aX bn eP eX fC fD bD dw=some (r1,r2)) /\ Aside0 (kq<=k) /\ Aside0 (Kd.V (Kd.int .u8) 5 wc w.heap.size (fun k_=>((uV k_ \/ uX k_) \/ w.heap.size<=k_) /\ k_≠kM) (.slice lX bD.length lY) bD) /\ Aside0 (Kd.V (Kd.int .u8) 5 wc w.heap.size (fun k_=>((uV k_ \/ uX k_) \/ w.heap.size<=k_) /\ k_≠kM) (.slice lZ dw.length l7) dw) /\ Aside0 (wc.heap[kM]?=some (.cells #[.int .u16 aI,.int .u16 aV,.int .u32 aX,.int .u32 bn,.int .u8 eP,.int .u16 eX,.int .u16 fC,.int .u16 fD,(.slice lX bD.length lY),(.slice lZ dw.length l7)] 137 (0,0))) /\ Aside0 (Below w.heap.size w wc))
 case first=>
  have H:=HC2.out;clear HC2
  by_cases c4:((bD.length:Int) % 4)=0
  ·rw [ah c4] at H
   have qE:(((bD.length:Int) % 4)==0)=true:=jf c4;have Eh:(((bD.length:Int) % 4) !=0)=false:=oM c4;clear c4
   (first|rw [qE]|(simp only [i64_w,i32_w];rw [qE])|skip)
   have H':=Aside0.mk H;clear H;have AcS:=xC dA.out;have AcT:=blk_frozen dA.out
   go_wp2
   go_meet
   case rel=>exact ⟨_,(decide ((bD.length:Int)>40)),(by first|rfl|(simp;done)|(simp [*];done)),H',⟨by first|omega|exact Nat.le_refl _⟩,⟨by (with_reducible repeat (first|apply Kd.kK|apply Kd.kL|apply Kd.nH));exact QZ.out⟩,⟨by (with_reducible repeat (first|apply Kd.kK|apply Kd.kL|apply Kd.nH));exact Q9.out⟩,⟨kz dA⟩,⟨bz HB⟩⟩
  ·rw [aj c4] at H
   have qE:(((bD.length:Int) % 4)==0)=false:=iM c4;have Eh:(((bD.length:Int) % 4) !=0)=true:=pq c4
   (first|rw [qE]|(simp only [i64_w,i32_w];rw [qE])|skip)
   have H':=Aside0.mk H;clear H;have VS:=xC dA.out;have VT:=blk_frozen dA.out
   go_wp2
   go_meet
   case rel=>exact ⟨_,(true),(by first|rfl|(simp;done)|(simp [*];done)),H',⟨by first|omega|exact Nat.le_refl _⟩,⟨by (with_reducible repeat (first|apply Kd.kK|apply Kd.kL|apply Kd.nH));exact QZ.out⟩,⟨by (with_reducible repeat (first|apply Kd.kK|apply Kd.kL|apply Kd.nH));exact Q9.out⟩,⟨kz dA⟩,⟨bz HB⟩⟩
 case rest=>
  clear HC2;obtain ⟨kq,xg,rfl,HA,HJ1,iG,iH,dA,HB⟩:=hcut
  cases kq with
  |zero=>exact absurd HA.out (by simp [gZ.j0])
  |succ XD=>
   have H:=HA.out;clear HA;simp only [gZ.j0] at H
   by_cases c7:xg=true
   ·subst c7
    have H1:(some (([]:List Int),21))=some (r1,r2):=by rw [ah rfl] at H;exact H
    clear H;have H:=H1;clear H1;simp only [Option.some.injEq,Prod.mk.injEq] at H
    obtain ⟨rfl,rfl⟩:=H
    go_wp2
    go_ret2
    exact ⟨_,by first|rfl|(simp [ae,af]<;>rfl)|(simp [*,ae,af]<;>rfl),by first|exact Kd.bV _ _ _ _ _|exact Kd.lV _ _ _ _ _|exact Kd.lW _ _ _ _ _|exact Kd.lT _ _ _ _ _|exact Kd.lU _ _ _ _ _,bz HB⟩
   ·replace c7:=FT c7
    subst c7;have H1:(if (wrap64 ((wrap64 (20+(bD.length:Int)))+(dw.length:Int)))>65515 then (some (([]:List Int),23)) else ((some (([aX,bn]:List Int):List Int)).bind fun mF=>(gZ.l0 XD (([(aI / 256) % 256,(aI) % 256,(aV / 256) % 256,(aV) % 256]:List Int)) mF (mF.length:Int) 0 aI aV aX bn eP eX fC fD bD dw)))=some (r1,r2):=by rw [aj (show ¬ (false=true) by decide)] at H;exact H
    clear H;have H:=H1;clear H1
    by_cases c8:(wrap64 ((wrap64 (20+(bD.length:Int)))+(dw.length:Int)))>65515
    ·rw [ah c8] at H
     have uf:decide (65515<(wrap64 ((wrap64 (20+(bD.length:Int)))+(dw.length:Int))))=true:=bJ c8;clear c8;simp only [Option.some.injEq,Prod.mk.injEq] at H
     obtain ⟨rfl,rfl⟩:=H;have Kt:=cz dA.out 0 rfl;have Ku:=cz dA.out 1 rfl;have Kv:=cz dA.out 2 rfl;have Kw:=cz dA.out 3 rfl;have OZ:=cz dA.out 4 rfl;have Ait:=cz dA.out 5 rfl;have Aiu:=cz dA.out 6 rfl;have Aiv:=cz dA.out 7 rfl;have Aiw:=cz dA.out 8 rfl;have Aix:=cz dA.out 9 rfl;have Ky:=blk_frozen dA.out 0;have Kz:=blk_frozen dA.out 1;have KA:=blk_frozen dA.out 2;have KC:=blk_frozen dA.out 3;have O0:=blk_frozen dA.out 4;have Aiy:=blk_frozen dA.out 5;have Aiz:=blk_frozen dA.out 6;have AiA:=blk_frozen dA.out 7;have AiB:=blk_frozen dA.out 8;have AiC:=blk_frozen dA.out 9
     go_wp2
     go_ret2
     exact ⟨_,by first|rfl|(simp [ae,af]<;>rfl)|(simp [*,ae,af]<;>rfl),by first|exact Kd.bV _ _ _ _ _|exact Kd.lV _ _ _ _ _|exact Kd.lW _ _ _ _ _|exact Kd.lT _ _ _ _ _|exact Kd.lU _ _ _ _ _,bz HB⟩
    ·rw [aj c8] at H
     have uf:decide (65515<(wrap64 ((wrap64 (20+(bD.length:Int)))+(dw.length:Int))))=false:=jC c8;clear c8;obtain ⟨AtS,Z9⟩:∃ y_:List Int,y_=(([(aI / 256) % 256,(aI) % 256,(aV / 256) % 256,(aV) % 256]:List Int)):=⟨_,rfl⟩
     rw [<- Z9] at H
     have Afk:=Aside0.mk Z9;clear Z9;obtain ⟨mF,Aaa⟩:∃ y_:List Int,y_=(([aX,bn]:List Int)):=⟨_,rfl⟩
     rw [<- Aaa] at H
     have Afl:=Aside0.mk Aaa;clear Aaa;have H':=Aside0.mk H;clear H;have zk:=cz dA.out 0 rfl;have zl:=cz dA.out 1 rfl;have zn:=cz dA.out 2 rfl;have zo:=cz dA.out 3 rfl;have Gq:=cz dA.out 4 rfl;have Jl:=cz dA.out 5 rfl;have Jm:=cz dA.out 6 rfl;have Jn:=cz dA.out 7 rfl;have Jo:=cz dA.out 8 rfl;have Jp:=cz dA.out 9 rfl;have zq:=blk_frozen dA.out 0;have zu:=blk_frozen dA.out 1;have zx:=blk_frozen dA.out 2;have zy:=blk_frozen dA.out 3;have Gs:=blk_frozen dA.out 4;have Jq:=blk_frozen dA.out 5;have Jr:=blk_frozen dA.out 6;have Js:=blk_frozen dA.out 7;have Jt:=blk_frozen dA.out 8;have Ju:=blk_frozen dA.out 9
     go_wp2_with (first|((with_reducible refine gate_dst (N:=43) rfl ?_);(try (refine eH (by rfl) ?_;dsimp only));refine Kd.wI (Kd.int .u8) _ 5 ?hg (N:=43) ?hd (xs:=([(aI / 256) % 256,(aI) % 256,(aV / 256) % 256,(aV) % 256]:List Int)) (inner:=[.int .u8 ((aI / 256) % 256),.int .u8 ((aI) % 256),.int .u8 ((aV / 256) % 256),.int .u8 ((aV) % 256)]) (ok:=fun _=>True) (xw:=fun _=>True) ?hr ?hp (fun _ hk=>hk) trivial (Below.refl _ _) (Nat.le_refl _) (by simp) ?_;(case hd=>rfl);(case hg=>rfl);(case hr=>first|(go_simp;done)|(go_simp;simp only [IntKind.wrap_u8,IntKind.wrap_u16,IntKind.wrap_u32];done)|(go_simp;rfl));(case hp=>exact (dn.one (show Kd.M (Kd.int .u8) _ _ _ ((aI / 256) % 256) [.int .u8 ((aI / 256) % 256)] from rfl) (dn.one (show Kd.M (Kd.int .u8) _ _ _ ((aI) % 256) [.int .u8 ((aI) % 256)] from rfl) (dn.one (show Kd.M (Kd.int .u8) _ _ _ ((aV / 256) % 256) [.int .u8 ((aV / 256) % 256)] from rfl) (dn.one (show Kd.M (Kd.int .u8) _ _ _ ((aV) % 256) [.int .u8 ((aV) % 256)] from rfl) (dn.none _ _))))));intro AyY w11 Ht hb hg_ kP;clear hg_ kP;(first|rw [<- Afk.out] at Ht|(simp only [Int.reduceToNat] at Ht;rw [<- Afk.out] at Ht));have ay:=Aside0.mk (Kd.rE (by (with_reducible repeat (first|apply Kd.kK|apply Kd.kL|apply Kd.nH));exact iG.out) (Kd.nU Ht) hb);have aC:=Aside0.mk (Kd.rE (by (with_reducible repeat (first|apply Kd.kK|apply Kd.kL|apply Kd.nH));exact iH.out) (Kd.nU Ht) hb);have bg:=Aside0.mk (Kd.R_lower (Kd.Fb (M:=fun k_=>(w.heap.size<=k_)) Ht (below_size (bz HB)) (fun k_ h_=>h_)) (below_size (bz HB)));have dm:=Aside0.mk (aZ (kz dA) hb);have Ae:=Aside0.mk (ag (bz HB) hb);clear iG;clear iH;clear dA;clear HB;have iG:=ay;have iH:=aC;have VU:=bg;have dA:=dm;have HB:=Ae;clear ay aC bg dm Ae;clear hb Ht;have OL:w11.cell? ⟨kM,0,none⟩=some (.int .u16 aI):=cz dA.out 0 rfl;have OM:w11.cell? ⟨kM,1,none⟩=some (.int .u16 aV):=cz dA.out 1 rfl;have OO:w11.cell? ⟨kM,2,none⟩=some (.int .u32 aX):=cz dA.out 2 rfl;have OQ:w11.cell? ⟨kM,3,none⟩=some (.int .u32 bn):=cz dA.out 3 rfl;have AcU:w11.cell? ⟨kM,4,none⟩=some (.int .u8 eP):=cz dA.out 4 rfl;have AcV:w11.cell? ⟨kM,5,none⟩=some (.int .u16 eX):=cz dA.out 5 rfl;have AcW:w11.cell? ⟨kM,6,none⟩=some (.int .u16 fC):=cz dA.out 6 rfl;have AcX:w11.cell? ⟨kM,7,none⟩=some (.int .u16 fD):=cz dA.out 7 rfl;have AcY:w11.cell? ⟨kM,8,none⟩=some (.slice lX bD.length lY):=cz dA.out 8 rfl;have AcZ:w11.cell? ⟨kM,9,none⟩=some (.slice lZ dw.length l7):=cz dA.out 9 rfl;have OT:=blk_frozen dA.out 0;have OU:=blk_frozen dA.out 1;have OV:=blk_frozen dA.out 2;have OW:=blk_frozen dA.out 3;have Ac0:=blk_frozen dA.out 4;have Ac1:=blk_frozen dA.out 5;have Ac2:=blk_frozen dA.out 6;have Ac3:=blk_frozen dA.out 7;have Ac4:=blk_frozen dA.out 8;have Ac5:=blk_frozen dA.out 9)|((with_reducible refine gate_dst (N:=48) rfl ?_);(try (refine eH (by rfl) ?_;dsimp only));refine Kd.wI (Kd.int .u32) _ 27 ?hg (N:=48) ?hd (xs:=([aX,bn]:List Int)) (inner:=[.int .u32 aX,.int .u32 bn]) (ok:=fun _=>True) (xw:=fun _=>True) ?hr ?hp (fun _ hk=>hk) trivial (Below.refl _ _) (Nat.le_refl _) (by simp) ?_;(case hd=>rfl);(case hg=>rfl);(case hr=>first|(go_simp;done)|(go_simp;rfl));(case hp=>exact (dn.one (show Kd.M (Kd.int .u32) _ _ _ aX [.int .u32 aX] from rfl) (dn.one (show Kd.M (Kd.int .u32) _ _ _ bn [.int .u32 bn] from rfl) (dn.none _ _))));intro AyZ w14 Uo hb hg_ kP;clear hg_ kP;(first|rw [<- Afl.out] at Uo|(simp only [Int.reduceToNat] at Uo;rw [<- Afl.out] at Uo));have ay:=Aside0.mk (Kd.rE (by (with_reducible repeat (first|apply Kd.kK|apply Kd.kL|apply Kd.nH));exact iG.out) (Kd.nU Uo) hb);have aC:=Aside0.mk (Kd.rE (by (with_reducible repeat (first|apply Kd.kK|apply Kd.kL|apply Kd.nH));exact iH.out) (Kd.nU Uo) hb);have bg:=Aside0.mk (Kd.jd (Kd.rz VU) hb);have dm:=Aside0.mk (Kd.R_lower (Kd.Fb (M:=fun k_=>(w.heap.size<=k_)) Uo (below_size (bz HB)) (fun k_ h_=>h_)) (below_size (bz HB)));have Ae:=Aside0.mk (aZ (kz dA) hb);have EP:=Aside0.mk (ag (bz HB) hb);clear iG;clear iH;clear VU;clear dA;clear HB;have iG:=ay;have iH:=aC;have VU:=bg;have Afm:=dm;have dA:=Ae;have HB:=EP;clear ay aC bg dm Ae EP;clear hb Uo;obtain ⟨Gt,Ew,AtT⟩:=Kd.dN Afm.out;subst AtT))
     go_loopg [4,50] XD (fun kq v4 v50 w'=>∃ (Hu:List Int) (mZ:Int),v50= .int .i64 mZ /\ Aside0 (gZ.l0 kq Hu mF (mF.length:Int) mZ aI aV aX bn eP eX fC fD bD dw=some (r1,r2)) /\ Aside0 (kq<=XD) /\ Aside0 (Kd.R (Kd.int .u8) 5 w' w.heap.size (fun k_=>(w.heap.size<=k_)) v4 Hu) /\ Aside0 (Kd.R (Kd.int .u32) 27 w' w.heap.size (fun k_=>(w.heap.size<=k_)) (.slice Gt mF.length Ew) mF) /\ Aside0 (Kd.V (Kd.int .u8) 5 w' w.heap.size (fun k_=>((uV k_ \/ uX k_) \/ w.heap.size<=k_) /\ some k_≠(v4:Value).ownBlock /\ some k_≠((.slice Gt mF.length Ew):Value).ownBlock /\ k_≠kM) (.slice lX bD.length lY) bD) /\ Aside0 (Kd.V (Kd.int .u8) 5 w' w.heap.size (fun k_=>((uV k_ \/ uX k_) \/ w.heap.size<=k_) /\ some k_≠(v4:Value).ownBlock /\ some k_≠((.slice Gt mF.length Ew):Value).ownBlock /\ k_≠kM) (.slice lZ dw.length l7) dw) /\ Aside0 (w'.heap[kM]?=some (.cells #[.int .u16 aI,.int .u16 aV,.int .u32 aX,.int .u32 bn,.int .u8 eP,.int .u16 eX,.int .u16 fC,.int .u16 fD,(.slice lX bD.length lY),(.slice lZ dw.length l7)] 137 (0,0))) /\ Aside0 (Below w.heap.size w w'))
     case atStart=>exact ⟨(AtS),(0),(by first|rfl|(simp;done)|(simp [*];done)),H',⟨Nat.le_refl _⟩,⟨by (with_reducible repeat (first|apply Kd.ik|apply Kd.gV|apply Kd.iq));exact Kd.R_mono VU.out (fun _ hk=>hk.1)⟩,⟨by (with_reducible repeat (first|apply Kd.ik|apply Kd.gV|apply Kd.iq));exact Kd.R_mono Afm.out (fun _ hk=>hk.1)⟩,⟨by (with_reducible repeat (first|apply Kd.kK|apply Kd.kL|apply Kd.nH));exact Kd.vH iG.out (fun _ hk=>⟨hk.1.1.1,⟨hk.1.2,⟨hk.2,hk.1.1.2⟩⟩⟩)⟩,⟨by (with_reducible repeat (first|apply Kd.kK|apply Kd.kL|apply Kd.nH));exact Kd.vH iH.out (fun _ hk=>⟨hk.1.1.1,⟨hk.1.2,⟨hk.2,hk.1.1.2⟩⟩⟩)⟩,⟨kz dA⟩,⟨bz HB⟩⟩
     case round=>
      clear H'
      try clear c7
      try clear c8
      try clear uf
      try clear zk
      try clear zl
      try clear zn
      try clear zo
      try clear Gq
      try clear Jl
      try clear Jm
      try clear Jn
      try clear Jo
      try clear Jp
      try clear OL
      try clear OM
      try clear OO
      try clear OQ
      try clear AcU
      try clear AcV
      try clear AcW
      try clear AcX
      try clear AcY
      try clear AcZ
      try clear zq
      try clear zu
      try clear zx
      try clear zy
      try clear Gs
      try clear Jq
      try clear Jr
      try clear Js
      try clear Jt
      try clear Ju
      try clear OT
      try clear OU
      try clear OV
      try clear OW
      try clear Ac0
      try clear Ac1
      try clear Ac2
      try clear Ac3
      try clear Ac4
      try clear Ac5
      obtain ⟨Hu,mZ,rfl,HA,HK2,Ey,sH,iG,iH,dA,HB⟩:=hrel
      cases gk with
      |zero=>exact absurd HA.out (by simp [gZ.l0])
      |succ k2=>
       have H:=HA.out;clear HA;simp only [gZ.l0] at H
       by_cases c17:mZ<(mF.length:Int)
       ·rw [ah c17] at H
        have Qw:decide (mZ<(mF.length:Int))=true:=bJ c17;clear c17
        by_cases c18:0<=mZ
        ·rw [ah c18] at H
         have AwX:decide (0<=mZ)=true:=bJ c18;clear c18
         by_cases c19:mZ<(mF.length:Int)
         ·rw [ah c19] at H
          have Zc:decide (mZ<(mF.length:Int))=true:=bJ c19;clear c19;obtain ⟨KE,Rf⟩:∃ y_:List Int,y_=(([((rd mF mZ) / 16777216) % 256,((rd mF mZ) / 65536) % 256,((rd mF mZ) / 256) % 256,(rd mF mZ) % 256]:List Int)):=⟨_,rfl⟩
          replace H:(if Hu.length+KE.length<140737488355328 then (gZ.l0 k2 (Hu++KE) mF (mF.length:Int) (wrap64 (mZ+1)) aI aV aX bn eP eX fC fD bD dw) else (none))=some (r1,r2):=by first|(rw [Rf];with_reducible exact H)|(have oO:=(bG _ _).symm.trans H;rw [Rf];with_reducible exact oO)|(have oO:=(bG _ _).symm.trans H;with_reducible exact oO)|with_reducible exact H|(rw [Rf];exact H)|exact H
          have Afn:=Aside0.mk Rf;clear Rf
          by_cases c20:Hu.length+KE.length<140737488355328
          ·rw [ah c20] at H
           have Aab:=Aside0.mk c20;clear c20;obtain ⟨AmI,Rh⟩:∃ y_:List Int,y_=(Hu++KE):=⟨_,rfl⟩
           replace H:(gZ.l0 k2 AmI mF (mF.length:Int) (wrap64 (mZ+1)) aI aV aX bn eP eX fC fD bD dw)=some (r1,r2):=by first|(rw [Rh];with_reducible exact H)|(have oO:=(bG _ _).symm.trans H;rw [Rh];with_reducible exact oO)|(have oO:=(bG _ _).symm.trans H;with_reducible exact oO)|with_reducible exact H|(rw [Rh];exact H)|exact H
           have AmJ:=Aside0.mk Rh;clear Rh;have H':=Aside0.mk H;clear H;have AiD:0<=(mZ:Int):=je;have AiE:mZ<(mF.length:Int):=je;obtain ⟨Afo,AtU,Aqa⟩:=Kd.dU (Kd.R_reads' sH.out).2.2 mZ AiD AiE
           cases AtU
           replace AiD:=eq_true AiD;replace AiE:=eq_true AiE
           go_wp2_with (first|((with_reducible refine gate_dst (N:=66) rfl ?_);(try (refine eH (by rfl) ?_;dsimp only));refine Kd.wI (Kd.int .u8) _ 5 ?hg (N:=66) ?hd (xs:=([((rd mF mZ) / 16777216) % 256,((rd mF mZ) / 65536) % 256,((rd mF mZ) / 256) % 256,(rd mF mZ) % 256]:List Int)) (inner:=[.int .u8 (((rd mF mZ) / 16777216) % 256),.int .u8 (((rd mF mZ) / 65536) % 256),.int .u8 (((rd mF mZ) / 256) % 256),.int .u8 ((rd mF mZ) % 256)]) (ok:=fun _=>True) (xw:=fun _=>True) ?hr ?hp (fun _ hk=>hk) trivial (Below.refl _ _) (Nat.le_refl _) (by simp) ?_;(case hd=>rfl);(case hg=>rfl);(case hr=>first|(go_simp;done)|(go_simp;simp only [IntKind.wrap_u8,IntKind.wrap_u16,IntKind.wrap_u32];done)|(go_simp;rfl));(case hp=>exact (dn.one (show Kd.M (Kd.int .u8) _ _ _ (((rd mF mZ) / 16777216) % 256) [.int .u8 (((rd mF mZ) / 16777216) % 256)] from rfl) (dn.one (show Kd.M (Kd.int .u8) _ _ _ (((rd mF mZ) / 65536) % 256) [.int .u8 (((rd mF mZ) / 65536) % 256)] from rfl) (dn.one (show Kd.M (Kd.int .u8) _ _ _ (((rd mF mZ) / 256) % 256) [.int .u8 (((rd mF mZ) / 256) % 256)] from rfl) (dn.one (show Kd.M (Kd.int .u8) _ _ _ ((rd mF mZ) % 256) [.int .u8 ((rd mF mZ) % 256)] from rfl) (dn.none _ _))))));intro Ay0 w21 Ri hb hg_ kP;clear hg_ kP;(first|rw [<- Afn.out] at Ri|(simp only [Int.reduceToNat] at Ri;rw [<- Afn.out] at Ri));have ay:=Aside0.mk (Kd.rD (Kd.rz Ey) (Kd.nU Ri) hb);have aC:=Aside0.mk (Kd.jd (Kd.rz sH) hb);have bg:=Aside0.mk (Kd.rE (by (with_reducible repeat (first|apply Kd.kK|apply Kd.kL|apply Kd.nH));exact iG.out) (Kd.nU Ri) hb);have dm:=Aside0.mk (Kd.rE (by (with_reducible repeat (first|apply Kd.kK|apply Kd.kL|apply Kd.nH));exact iH.out) (Kd.nU Ri) hb);have Ae:=Aside0.mk (Kd.R_lower (Kd.xy (Kd.Fb (M:=fun k_=>(w.heap.size<=k_)) Ri (below_size (bz HB)) (fun k_ h_=>h_)) (Kd.uB (Kd.rz Ey))) (below_size (bz HB)));have EP:=Aside0.mk (aZ (kz dA) hb);have Iz:=Aside0.mk (ag (bz HB) hb);clear Ey;clear sH;clear iG;clear iH;clear dA;clear HB;have Ey:=ay;have sH:=aC;have iG:=bg;have iH:=dm;have Nz:=Ae;have dA:=EP;have HB:=Iz;clear ay aC bg dm Ae EP Iz;clear hb Ri;obtain ⟨AiF,AiG,AtV⟩:=Kd.dN Nz.out;subst AtV)|((with_reducible refine iF (b:= .append) (xs:= #[.tmp 54,.tmp 66]) rfl ?_);(try (refine eH (by rfl) ?_;dsimp only));at_builtin;refine Kd.jv (Kd.int .u8) (w0:=w) w.heap.size rfl (.tmp 54) (.tmp 66) 23 5 (.int .u8 0) 1 rfl Try.underlying23 info5 rfl (by decide) (by omega) u4 Hu KE _ _ _ (fun k_=>(w.heap.size<=k_) /\ some k_≠(.slice AiF KE.length AiG:Value).ownBlock) (fun _=>False) rfl rfl ?aO ?aR (fun _ _ h=>h) (fun _ h=>h.elim) ?aF ?aB ?aS ?aL ?_;(case aR=>repeat (first|exact (Kd.R_reads' Nz.out).2.2|(with_reducible refine Kd.iL ?_ _)|(with_reducible refine Kd.iD ?_ _)|(with_reducible refine Kd.jE ?_)));(case aB=>exact bz HB);(case aF=>exact (fun k_ hk=>⟨(Nat.le_trans (below_size (bz HB)) hk),Kd.fresh' (Kd.uB (Kd.rz Nz)) k_ hk⟩));(case aO=>exact (Kd.rz Ey));(case aS=>exact (below_size (bz HB)));(case aL=>have:=Aab.out;omega);intro Ay1 w23 ho hb hg hat;rw [<- AmJ.out] at ho;have ay:=Aside0.mk (Kd.AA (Kd.rz sH) (Kd.yx (Kd.rz Ey)) (by decide) hg);have aC:=Aside0.mk (Kd.F6 (ok:=(fun k_=>((uV k_ \/ uX k_) \/ w.heap.size<=k_) /\ some k_≠(.slice (some Afo) mF.length Ew:Value).ownBlock /\ some k_≠(.slice AiF KE.length AiG:Value).ownBlock /\ k_≠kM)) (by (with_reducible repeat (first|apply Kd.kK|apply Kd.kL|apply Kd.nH));exact Kd.vH iG.out (fun _ hk=>⟨⟨hk.1.1,⟨hk.1.2.2.1,⟨hk.2,hk.1.2.2.2⟩⟩⟩,hk.1.2.1⟩)) hg hat);have bg:=Aside0.mk (Kd.F6 (ok:=(fun k_=>((uV k_ \/ uX k_) \/ w.heap.size<=k_) /\ some k_≠(.slice (some Afo) mF.length Ew:Value).ownBlock /\ some k_≠(.slice AiF KE.length AiG:Value).ownBlock /\ k_≠kM)) (by (with_reducible repeat (first|apply Kd.kK|apply Kd.kL|apply Kd.nH));exact Kd.vH iH.out (fun _ hk=>⟨⟨hk.1.1,⟨hk.1.2.2.1,⟨hk.2,hk.1.2.2.2⟩⟩⟩,hk.1.2.1⟩)) hg hat);have dm:=Aside0.mk (jK (kz dA) hg (Kd.rV Ey.out dA.out (by decide)));have Ae:=Aside0.mk (Kd.tX (ok:=(fun k_=>(w.heap.size<=k_))) (by (with_reducible repeat (first|apply Kd.ik|apply Kd.gV|apply Kd.iq));exact Kd.R_mono Nz.out (fun _ hk=>⟨hk.1.1,hk.2⟩)) hg hat);have EP:=Aside0.mk (hb);have Iz:=Aside0.mk (ho);clear sH;clear iG;clear iH;clear dA;clear Nz;clear HB;clear Ey;have sH:=ay;have iG:=aC;have iH:=bg;have dA:=dm;have Nz:=Ae;have HB:=EP;have AmK:=Iz;clear ay aC bg dm Ae EP Iz;clear ho hb hg hat))
           go_roundg k2
           case measure=>have:=HJ1.out;have:=HK2.out;omega
           case rel=>exact ⟨(AmI),(wrap64 (mZ+1)),(by first|rfl|(simp;done)|(simp [*];done)),H',⟨by have:=HJ1.out;have:=HK2.out;omega⟩,⟨by (with_reducible repeat (first|apply Kd.ik|apply Kd.gV|apply Kd.iq));exact Kd.R_mono AmK.out (fun _ hk=>hk.1)⟩,⟨Kd.rz sH⟩,⟨by (with_reducible repeat (first|apply Kd.kK|apply Kd.kL|apply Kd.nH));exact Kd.vH iG.out (fun _ hk=>⟨hk.1.1,⟨hk.2,⟨hk.1.2.1,hk.1.2.2.2⟩⟩⟩)⟩,⟨by (with_reducible repeat (first|apply Kd.kK|apply Kd.kL|apply Kd.nH));exact Kd.vH iH.out (fun _ hk=>⟨hk.1.1,⟨hk.2,⟨hk.1.2.1,hk.1.2.2.2⟩⟩⟩)⟩,⟨kz dA⟩,⟨bz HB⟩⟩
          ·rw [aj c20] at H
           cases H
         ·rw [aj c19] at H
          cases H
        ·rw [aj c18] at H
         cases H
       ·rw [aj c17] at H
        have Qw:decide (mZ<(mF.length:Int))=false:=jC c17;clear c17;obtain ⟨Af,Rj⟩:∃ y_:List Int,y_=(([((((wrap64 (20+(bD.length:Int))) % 256) / 4)*16) % 256,eP,(eX / 256) % 256,(eX) % 256,(fC / 256) % 256,(fC) % 256,(fD / 256) % 256,(fD) % 256]:List Int)):=⟨_,rfl⟩
        replace H:(if Hu.length+Af.length<140737488355328 then ((aT.f k2 (([(Hu++Af),bD,dw]:List (List Int)))).bind fun XC=>(some (XC,0))) else (none))=some (r1,r2):=by first|(rw [Rj];with_reducible exact H)|(have oO:=(bG _ _).symm.trans H;rw [Rj];with_reducible exact oO)|(have oO:=(bG _ _).symm.trans H;with_reducible exact oO)|with_reducible exact H|(rw [Rj];exact H)|exact H
        have Afp:=Aside0.mk Rj;clear Rj
        by_cases c25:Hu.length+Af.length<140737488355328
        ·rw [ah c25] at H
         have Aac:=Aside0.mk c25;clear c25;obtain ⟨Aad,Aae⟩:∃ y_:List Int,y_=(Hu++Af):=⟨_,rfl⟩
         rw [<- Aae] at H
         have AmL:=Aside0.mk Aae;clear Aae;obtain ⟨AmM,Aaf⟩:∃ y_:List (List Int),y_=(([Aad,bD,dw]:List (List Int))):=⟨_,rfl⟩
         rw [<- Aaf] at H
         have Afq:=Aside0.mk Aaf;clear Aaf;replace H:=dM H;obtain ⟨XC,QK,H⟩:=H;replace H:(some (XC,0))=some (r1,r2):=H;have A26:=Aside0.mk QK;clear QK;simp only [Option.some.injEq,Prod.mk.injEq] at H
         obtain ⟨rfl,rfl⟩:=H;have Aag:=xC dA.out;have Aah:=blk_frozen dA.out
         go_wp2_with (first|((with_reducible refine gate_dst (N:=100) rfl ?_);(try (refine eH (by rfl) ?_;dsimp only));refine Kd.wI (Kd.int .u8) _ 5 ?hg (N:=100) ?hd (xs:=([((((wrap64 (20+(bD.length:Int))) % 256) / 4)*16) % 256,eP,(eX / 256) % 256,(eX) % 256,(fC / 256) % 256,(fC) % 256,(fD / 256) % 256,(fD) % 256]:List Int)) (inner:=[.int .u8 (((((wrap64 (20+(bD.length:Int))) % 256) / 4)*16) % 256),.int .u8 eP,.int .u8 ((eX / 256) % 256),.int .u8 ((eX) % 256),.int .u8 ((fC / 256) % 256),.int .u8 ((fC) % 256),.int .u8 ((fD / 256) % 256),.int .u8 ((fD) % 256)]) (ok:=fun _=>True) (xw:=fun _=>True) ?hr ?hp (fun _ hk=>hk) trivial (Below.refl _ _) (Nat.le_refl _) (by simp) ?_;(case hd=>rfl);(case hg=>rfl);(case hr=>first|(go_simp;done)|(go_simp;simp only [IntKind.wrap_u8,IntKind.wrap_u16,IntKind.wrap_u32];done)|(go_simp;rfl));(case hp=>exact (dn.one (show Kd.M (Kd.int .u8) _ _ _ (((((wrap64 (20+(bD.length:Int))) % 256) / 4)*16) % 256) [.int .u8 (((((wrap64 (20+(bD.length:Int))) % 256) / 4)*16) % 256)] from rfl) (dn.one (show Kd.M (Kd.int .u8) _ _ _ eP [.int .u8 eP] from rfl) (dn.one (show Kd.M (Kd.int .u8) _ _ _ ((eX / 256) % 256) [.int .u8 ((eX / 256) % 256)] from rfl) (dn.one (show Kd.M (Kd.int .u8) _ _ _ ((eX) % 256) [.int .u8 ((eX) % 256)] from rfl) (dn.one (show Kd.M (Kd.int .u8) _ _ _ ((fC / 256) % 256) [.int .u8 ((fC / 256) % 256)] from rfl) (dn.one (show Kd.M (Kd.int .u8) _ _ _ ((fC) % 256) [.int .u8 ((fC) % 256)] from rfl) (dn.one (show Kd.M (Kd.int .u8) _ _ _ ((fD / 256) % 256) [.int .u8 ((fD / 256) % 256)] from rfl) (dn.one (show Kd.M (Kd.int .u8) _ _ _ ((fD) % 256) [.int .u8 ((fD) % 256)] from rfl) (dn.none _ _))))))))));intro Ay2 w28 Gu hb hg_ kP;clear hg_ kP;(first|rw [<- Afp.out] at Gu|(simp only [Int.reduceToNat] at Gu;rw [<- Afp.out] at Gu));have ay:=Aside0.mk (Kd.rD (Kd.rz Ey) (Kd.nU Gu) hb);have aC:=Aside0.mk (Kd.jd (Kd.rz sH) hb);have bg:=Aside0.mk (Kd.rE (by (with_reducible repeat (first|apply Kd.kK|apply Kd.kL|apply Kd.nH));exact iG.out) (Kd.nU Gu) hb);have dm:=Aside0.mk (Kd.rE (by (with_reducible repeat (first|apply Kd.kK|apply Kd.kL|apply Kd.nH));exact iH.out) (Kd.nU Gu) hb);have Ae:=Aside0.mk (Kd.R_lower (Kd.xy (Kd.Fb (M:=fun k_=>(w.heap.size<=k_)) Gu (below_size (bz HB)) (fun k_ h_=>h_)) (Kd.uB (Kd.rz Ey))) (below_size (bz HB)));have EP:=Aside0.mk (aZ (kz dA) hb);have Iz:=Aside0.mk (ag (bz HB) hb);clear Ey;clear sH;clear iG;clear iH;clear dA;clear HB;have Ey:=ay;have sH:=aC;have iG:=bg;have iH:=dm;have zC:=Ae;have dA:=EP;have HB:=Iz;clear ay aC bg dm Ae EP Iz;clear hb Gu;obtain ⟨Ez,ED,Ac6⟩:=Kd.dN zC.out;subst Ac6)|((with_reducible refine iF (b:= .append) (xs:= #[.tmp 69,.tmp 100]) rfl ?_);(try (refine eH (by rfl) ?_;dsimp only));at_builtin;refine Kd.jv (Kd.int .u8) (w0:=w) w.heap.size rfl (.tmp 69) (.tmp 100) 23 5 (.int .u8 0) 1 rfl Try.underlying23 info5 rfl (by decide) (by omega) u4 Hu Af _ _ _ (fun k_=>(w.heap.size<=k_) /\ some k_≠(.slice Ez Af.length ED:Value).ownBlock) (fun _=>False) rfl rfl ?aO ?aR (fun _ _ h=>h) (fun _ h=>h.elim) ?aF ?aB ?aS ?aL ?_;(case aR=>repeat (first|exact (Kd.R_reads' zC.out).2.2|(with_reducible refine Kd.iL ?_ _)|(with_reducible refine Kd.iD ?_ _)|(with_reducible refine Kd.jE ?_)));(case aB=>exact bz HB);(case aF=>exact (fun k_ hk=>⟨(Nat.le_trans (below_size (bz HB)) hk),Kd.fresh' (Kd.uB (Kd.rz zC)) k_ hk⟩));(case aO=>exact (Kd.rz Ey));(case aS=>exact (below_size (bz HB)));(case aL=>have:=Aac.out;omega);intro Ay3 XE ho hb hg hat;rw [<- AmL.out] at ho;have ay:=Aside0.mk (Kd.AA (Kd.rz sH) (Kd.yx (Kd.rz Ey)) (by decide) hg);have aC:=Aside0.mk (Kd.F6 (ok:=(fun k_=>((uV k_ \/ uX k_) \/ w.heap.size<=k_) /\ some k_≠(.slice Gt mF.length Ew:Value).ownBlock /\ some k_≠(.slice Ez Af.length ED:Value).ownBlock /\ k_≠kM)) (by (with_reducible repeat (first|apply Kd.kK|apply Kd.kL|apply Kd.nH));exact Kd.vH iG.out (fun _ hk=>⟨⟨hk.1.1,⟨hk.1.2.2.1,⟨hk.2,hk.1.2.2.2⟩⟩⟩,hk.1.2.1⟩)) hg hat);have bg:=Aside0.mk (Kd.F6 (ok:=(fun k_=>((uV k_ \/ uX k_) \/ w.heap.size<=k_) /\ some k_≠(.slice Gt mF.length Ew:Value).ownBlock /\ some k_≠(.slice Ez Af.length ED:Value).ownBlock /\ k_≠kM)) (by (with_reducible repeat (first|apply Kd.kK|apply Kd.kL|apply Kd.nH));exact Kd.vH iH.out (fun _ hk=>⟨⟨hk.1.1,⟨hk.1.2.2.1,⟨hk.2,hk.1.2.2.2⟩⟩⟩,hk.1.2.1⟩)) hg hat);have dm:=Aside0.mk (jK (kz dA) hg (Kd.rV Ey.out dA.out (by decide)));have Ae:=Aside0.mk (Kd.tX (ok:=(fun k_=>(w.heap.size<=k_))) (by (with_reducible repeat (first|apply Kd.ik|apply Kd.gV|apply Kd.iq));exact Kd.R_mono zC.out (fun _ hk=>⟨hk.1.1,hk.2⟩)) hg hat);have EP:=Aside0.mk (hb);have Iz:=Aside0.mk (ho);clear sH;clear iG;clear iH;clear dA;clear zC;clear HB;clear Ey;have sH:=ay;have iG:=aC;have iH:=bg;have dA:=dm;have zC:=Ae;have HB:=EP;have VV:=Iz;clear ay aC bg dm Ae EP Iz;clear ho hb hg hat;have Aqb:XE.cell? ⟨kM,0,none⟩=some (.int .u16 aI):=cz dA.out 0 rfl;have Aqc:XE.cell? ⟨kM,1,none⟩=some (.int .u16 aV):=cz dA.out 1 rfl;have Aqd:XE.cell? ⟨kM,2,none⟩=some (.int .u32 aX):=cz dA.out 2 rfl;have Aqe:XE.cell? ⟨kM,3,none⟩=some (.int .u32 bn):=cz dA.out 3 rfl;have Aqf:XE.cell? ⟨kM,4,none⟩=some (.int .u8 eP):=cz dA.out 4 rfl;have Aqg:XE.cell? ⟨kM,5,none⟩=some (.int .u16 eX):=cz dA.out 5 rfl;have Aqh:XE.cell? ⟨kM,6,none⟩=some (.int .u16 fC):=cz dA.out 6 rfl;have Aqi:XE.cell? ⟨kM,7,none⟩=some (.int .u16 fD):=cz dA.out 7 rfl;have Aqj:XE.cell? ⟨kM,8,none⟩=some (.slice lX bD.length lY):=cz dA.out 8 rfl;have Aqk:XE.cell? ⟨kM,9,none⟩=some (.slice lZ dw.length l7):=cz dA.out 9 rfl;have Aql:=blk_frozen dA.out 0;have Aqm:=blk_frozen dA.out 1;have Aqn:=blk_frozen dA.out 2;have Aqo:=blk_frozen dA.out 3;have Aqp:=blk_frozen dA.out 4;have Aqq:=blk_frozen dA.out 5;have Aqr:=blk_frozen dA.out 6;have Aqs:=blk_frozen dA.out 7;have Aqt:=blk_frozen dA.out 8;have Aqu:=blk_frozen dA.out 9;obtain ⟨Hw,Gv,MS⟩:=Kd.dN VV.out;subst MS)|((with_reducible refine gate_dst (N:=107) rfl ?_);(try (refine eH (by rfl) ?_;dsimp only));refine Kd.Alc (Kd.slice 5 (Kd.int .u8)) _ 23 ?hg (N':=107) ?hd (xs:=([Aad,bD,dw]:List (List Int))) (inner:=[.slice Hw Aad.length Gv,.slice lX bD.length lY,.slice lZ dw.length l7]) (ok:=(fun k_=>((uV k_ \/ uX k_) \/ w.heap.size<=k_) /\ some k_≠(.slice Gt mF.length Ew:Value).ownBlock /\ some k_≠(.slice Ez Af.length ED:Value).ownBlock /\ k_≠kM)) (xw:=(fun k_=>((uV k_ \/ uX k_) \/ w.heap.size<=k_) /\ some k_≠(.slice Gt mF.length Ew:Value).ownBlock /\ some k_≠(.slice Ez Af.length ED:Value).ownBlock /\ k_≠kM)) ?hr ?hp (fun _ hk=>hk) ((show ∀ k_,XE.heap.size<=k_ ->(fun k_=>((uV k_ \/ uX k_) \/ w.heap.size<=k_) /\ some k_≠(.slice Gt mF.length Ew:Value).ownBlock /\ some k_≠(.slice Ez Af.length ED:Value).ownBlock /\ k_≠kM) k_ from fun k_ hk=>⟨(.inr (Nat.le_trans (below_size (bz HB)) hk)),Kd.fresh' (Kd.uB (Kd.rz sH)) k_ hk,Kd.fresh' (Kd.uB (Kd.rz zC)) k_ hk,Kd.AgT (g:=kM) (o:= .cells #[.int .u16 aI,.int .u16 aV,.int .u32 aX,.int .u32 bn,.int .u8 eP,.int .u16 eX,.int .u16 fC,.int .u16 fD,.slice lX bD.length lY,.slice lZ dw.length l7] 137 (0,0)) (kz dA) k_ hk⟩) _ (Nat.le_refl _)) (Below.refl _ _) (Nat.le_refl _) (by simp) ?_;(case hd=>rfl);(case hg=>rfl);(case hr=>first|(go_simp;done)|(go_simp;rfl));(case hp=>exact (dn.one (show Kd.FK (Kd.slice 5 (Kd.int .u8)) _ _ Aad [.slice Hw Aad.length Gv] from (Kd.CP (Kd.R_reads' (Kd.R_mono (ok':=(fun k_=>((uV k_ \/ uX k_) \/ w.heap.size<=k_) /\ some k_≠(.slice Gt mF.length Ew:Value).ownBlock /\ some k_≠(.slice Ez Af.length ED:Value).ownBlock /\ k_≠kM)) (Kd.qY (Kd.Qg (VV.out) (Kd.yx sH.out) (by decide)) dA.out (by decide)) (fun k_ hk=>⟨(.inr (hk.1.1.1)),⟨hk.1.2,⟨hk.1.1.2,hk.2⟩⟩⟩))).2.1 (Kd.R_F (Kd.R_mono (ok':=(fun k_=>((uV k_ \/ uX k_) \/ w.heap.size<=k_) /\ some k_≠(.slice Gt mF.length Ew:Value).ownBlock /\ some k_≠(.slice Ez Af.length ED:Value).ownBlock /\ k_≠kM)) (Kd.qY (Kd.Qg (VV.out) (Kd.yx sH.out) (by decide)) dA.out (by decide)) (fun k_ hk=>⟨(.inr (hk.1.1.1)),⟨hk.1.2,⟨hk.1.1.2,hk.2⟩⟩⟩))))) (dn.one (show Kd.FK (Kd.slice 5 (Kd.int .u8)) _ _ bD [.slice lX bD.length lY] from (Kd.CP (Kd.Qo (Kd.vH (ok':=(fun k_=>((uV k_ \/ uX k_) \/ w.heap.size<=k_) /\ some k_≠(.slice Gt mF.length Ew:Value).ownBlock /\ some k_≠(.slice Ez Af.length ED:Value).ownBlock /\ k_≠kM)) (iG.out) (fun k_ hk=>⟨hk.1.1,⟨hk.1.2.1,⟨hk.1.2.2.1,hk.1.2.2.2⟩⟩⟩))).2.1 (Kd.V_F (Kd.vH (ok':=(fun k_=>((uV k_ \/ uX k_) \/ w.heap.size<=k_) /\ some k_≠(.slice Gt mF.length Ew:Value).ownBlock /\ some k_≠(.slice Ez Af.length ED:Value).ownBlock /\ k_≠kM)) (iG.out) (fun k_ hk=>⟨hk.1.1,⟨hk.1.2.1,⟨hk.1.2.2.1,hk.1.2.2.2⟩⟩⟩))))) (dn.one (show Kd.FK (Kd.slice 5 (Kd.int .u8)) _ _ dw [.slice lZ dw.length l7] from (Kd.CP (Kd.Qo (Kd.vH (ok':=(fun k_=>((uV k_ \/ uX k_) \/ w.heap.size<=k_) /\ some k_≠(.slice Gt mF.length Ew:Value).ownBlock /\ some k_≠(.slice Ez Af.length ED:Value).ownBlock /\ k_≠kM)) (iH.out) (fun k_ hk=>⟨hk.1.1,⟨hk.1.2.1,⟨hk.1.2.2.1,hk.1.2.2.2⟩⟩⟩))).2.1 (Kd.V_F (Kd.vH (ok':=(fun k_=>((uV k_ \/ uX k_) \/ w.heap.size<=k_) /\ some k_≠(.slice Gt mF.length Ew:Value).ownBlock /\ some k_≠(.slice Ez Af.length ED:Value).ownBlock /\ k_≠kM)) (iH.out) (fun k_ hk=>⟨hk.1.1,⟨hk.1.2.1,⟨hk.1.2.2.1,hk.1.2.2.2⟩⟩⟩))))) (dn.none _ _)))));intro Ay4 Ur Us hb hg_ kP;clear hg_ kP;(first|rw [<- Afq.out] at Us|(simp only [Int.reduceToNat] at Us;rw [<- Afq.out] at Us));have ay:=Aside0.mk (Kd.jd (Kd.rz sH) hb);have aC:=Aside0.mk (Kd.rE (by (with_reducible repeat (first|apply Kd.kK|apply Kd.kL|apply Kd.nH));exact iG.out) (Kd.YW Us) hb);have bg:=Aside0.mk (Kd.rE (by (with_reducible repeat (first|apply Kd.kK|apply Kd.kL|apply Kd.nH));exact iH.out) (Kd.YW Us) hb);have dm:=Aside0.mk (Kd.jd (Kd.rz zC) hb);have Ae:=Aside0.mk (Kd.Acz Us (below_size (bz HB)));have EP:=Aside0.mk (aZ (kz dA) hb);have Iz:=Aside0.mk (ag (bz HB) hb);clear sH;clear iG;clear iH;clear zC;clear dA;clear HB;clear VV;have sH:=ay;have iG:=aC;have iH:=bg;have zC:=dm;have NC:=Ae;have dA:=EP;have HB:=Iz;clear ay aC bg dm Ae EP Iz;clear hb Us;obtain ⟨AtW,AtX,AtY⟩:=Kd.AcC NC.out;subst AtY)|((with_reducible refine ai (f:=127) rfl ?_);refine gL 108 Try.func127 #[.slice AtW AmM.length AtX] ?_;(with_reducible refine (aT.calls k2 _ _ AmM XC _ ?au ?ax A26.out).mono ?_);(case au=>repeat (first|exact (Kd.Qn NC.out).2.2|(with_reducible refine Kd.iL ?_ _)|(with_reducible refine Kd.iD ?_ _)|(with_reducible refine Kd.jE ?_)));(case ax=>exact (Kd.Qn NC.out).2.1);rintro e w37 ⟨Ay5,rfl,ho0,hb⟩;refine ⟨_,rfl, ?_⟩;have ay:=Aside0.mk (Kd.jd (Kd.rz sH) hb);have aC:=Aside0.mk (Kd.rE (by (with_reducible repeat (first|apply Kd.kK|apply Kd.kL|apply Kd.nH));exact iG.out) (Kd.nU ho0) hb);have bg:=Aside0.mk (Kd.rE (by (with_reducible repeat (first|apply Kd.kK|apply Kd.kL|apply Kd.nH));exact iH.out) (Kd.nU ho0) hb);have dm:=Aside0.mk (Kd.rD (Kd.rz zC) (Kd.nU ho0) hb);have Ae:=Aside0.mk (Kd.YX (by (with_reducible repeat (first|apply Kd.AcA|apply Kd.AcB|apply Kd.Ag1));exact NC.out) (Kd.nU ho0) hb);have EP:=Aside0.mk (Kd.R_lower (Kd.xy (Kd.Fb (M:=fun k_=>(w.heap.size<=k_)) ho0 (below_size (bz HB)) (fun k_ h_=>h_)) (Kd.uB (Kd.rz zC))) (below_size (bz HB)));have Iz:=Aside0.mk (aZ (kz dA) hb);have n7_:=Aside0.mk (ag (bz HB) hb);clear sH;clear iG;clear iH;clear zC;clear NC;clear dA;clear HB;have sH:=ay;have iG:=aC;have iH:=bg;have zC:=dm;have NC:=Ae;have AmO:=EP;have dA:=Iz;have HB:=n7_;clear ay aC bg dm Ae EP Iz n7_;(try clear hb);(try clear hb2);(try clear hk);(try clear hi);(try clear ho0)))
         go_ret2
         exact ⟨_,by first|rfl|(simp [ae,af]<;>rfl)|(simp [*,ae,af]<;>rfl),by (with_reducible repeat (first|apply Kd.ik|apply Kd.gV|apply Kd.iq));exact Kd.R_mono AmO.out (fun _ hk=>hk.1.1),bz HB⟩
        ·rw [aj c25] at H
         cases H
def uj.f (k:Nat) (a0:Int) (a1:Int) (fH:Int) (fJ:Int) (fF:Int) (lK:Int) (lM:Int) (lN:Int) (oK:Int) (lQ:Int) (kE:List Int) (kF:List Int):Option (Int×Bool):=(gZ.f k fH fJ fF lK lM lN oK lQ kE kF).bind fun KF=>((nX.f k a0 a1 6 (KF.1.length:Int)).bind fun Ut=>((jw.f k Ut KF.1).bind fun Uu=>((fP.f k Uu).bind fun Aai=>(some (Aai,(KF.2==0))))))
theorem uj.calls (k:Nat) (a0:Int) (a1:Int) (fH:Int) (fJ:Int) (fF:Int) (lK:Int) (lM:Int) (lN:Int) (oK:Int) (lQ:Int) (rW:Option Addr) (rX:Nat) (kE:List Int) (rY:Option Addr) (rZ:Nat) (kF:List Int) (r1:Int) (r2:Bool) (w:World) (Dk:Kd.C (Kd.int .u8) w rW kE.length kE) (Dl:kE.length<=rX) (Dn:Kd.C (Kd.int .u8) w rY kF.length kF) (Dp:kF.length<=rZ) (h:uj.f k a0 a1 fH fJ fF lK lM lN oK lQ kE kF=some (r1,r2)):
  Calls Try.prog 126 #[.int .u32 a0,.int .u32 a1,.agg #[.int .u16 fH,.int .u16 fJ,.int .u32 fF,.int .u32 lK,.int .u8 lM,.int .u16 lN,.int .u16 oK,.int .u16 lQ,.slice rW kE.length rX,.slice rY kF.length rZ]] w fun e w'=>e= .returned (.tuple #[.int .u16 r1,.bool r2]) /\ Below w.heap.size w w':=by
 have Ag:=Try.underlying137;have ER:=Aside0.mk Dk;have ES:=Aside0.mk Dl;clear Dk Dl;have EU:=Aside0.mk Dn;have EW:=Aside0.mk Dp;clear Dn Dp;have HB:=jy w;have H:((gZ.f k fH fJ fF lK lM lN oK lQ kE kF).bind fun KF=>((nX.f k a0 a1 6 (KF.1.length:Int)).bind fun Ut=>((jw.f k Ut KF.1).bind fun Uu=>((fP.f k Uu).bind fun Aai=>(some (Aai,(KF.2==0)))))))=some (r1,r2):=h;clear h;replace H:=dM H;obtain ⟨⟨Aaj,At0⟩,yz,H⟩:=H
 (try dsimp -simprocs only at H)
 have A4:=Aside0.mk yz;clear yz;replace H:=dM H;obtain ⟨Ut,Kq,H⟩:=H
 (try dsimp -simprocs only at H)
 have A5:=Aside0.mk Kq;clear Kq;replace H:=dM H;obtain ⟨Uu,Ce,H⟩:=H
 (try dsimp -simprocs only at H)
 have A6:=Aside0.mk Ce;clear Ce;replace H:=dM H;obtain ⟨Aai,Iq,H⟩:=H
 (try dsimp -simprocs only at H)
 have A7:=Aside0.mk Iq;clear Iq;simp only [Option.some.injEq,Prod.mk.injEq] at H
 obtain ⟨rfl,rfl⟩:=H
 go_enter Try.func126,Try.ntmps126
 go_wp2_with (first|((with_reducible refine gate_dst (N:=5) rfl ?_);refine box_event ?hg (N:=5) ?hd (cs:= #[.int .u16 fH,.int .u16 fJ,.int .u32 fF,.int .u32 lK,.int .u8 lM,.int .u16 lN,.int .u16 oK,.int .u16 lQ,.slice rW kE.length rX,.slice rY kF.length rZ]) (t:=137) ?hr ?_;(case hd=>rfl);(case hg=>rfl);(case hr=>first|(go_simp;done)|(go_simp;rfl));intro Ci hg w8 hbox hb;have ay:=Aside0.mk (ag (bz HB) hb);have aC:=Aside0.mk (hbox);have bg:=Aside0.mk ((by rw [hg];exact (below_size (bz HB)):w.heap.size<=Ci));have dm:=Aside0.mk ((by rw [hg];exact (below_size (bz HB)):w.heap.size<=Ci));clear HB;have HB:=ay;have qW:=aC;have AwZ:=bg;have Aw0:=dm;clear ay aC bg dm;clear hb hbox hg;have Kt:w8.cell? ⟨Ci,0,none⟩=some (.int .u16 fH):=cz qW.out 0 rfl;have Ku:w8.cell? ⟨Ci,1,none⟩=some (.int .u16 fJ):=cz qW.out 1 rfl;have Kv:w8.cell? ⟨Ci,2,none⟩=some (.int .u32 fF):=cz qW.out 2 rfl;have Kw:w8.cell? ⟨Ci,3,none⟩=some (.int .u32 lK):=cz qW.out 3 rfl;have OZ:w8.cell? ⟨Ci,4,none⟩=some (.int .u8 lM):=cz qW.out 4 rfl;have Ait:w8.cell? ⟨Ci,5,none⟩=some (.int .u16 lN):=cz qW.out 5 rfl;have Aiu:w8.cell? ⟨Ci,6,none⟩=some (.int .u16 oK):=cz qW.out 6 rfl;have Aiv:w8.cell? ⟨Ci,7,none⟩=some (.int .u16 lQ):=cz qW.out 7 rfl;have Aiw:w8.cell? ⟨Ci,8,none⟩=some (.slice rW kE.length rX):=cz qW.out 8 rfl;have Aix:w8.cell? ⟨Ci,9,none⟩=some (.slice rY kF.length rZ):=cz qW.out 9 rfl;have Ky:=blk_frozen qW.out 0;have Kz:=blk_frozen qW.out 1;have KA:=blk_frozen qW.out 2;have KC:=blk_frozen qW.out 3;have O0:=blk_frozen qW.out 4;have Aiy:=blk_frozen qW.out 5;have Aiz:=blk_frozen qW.out 6;have AiA:=blk_frozen qW.out 7;have AiB:=blk_frozen qW.out 8;have AiC:=blk_frozen qW.out 9)|((with_reducible refine ai (f:=110) rfl ?_);refine gL 12 Try.func110 #[.agg #[.int .u16 fH,.int .u16 fJ,.int .u32 fF,.int .u32 lK,.int .u8 lM,.int .u16 lN,.int .u16 oK,.int .u16 lQ,.slice rW kE.length rX,.slice rY kF.length rZ]] ?_;(with_reducible refine (gZ.calls k fH fJ fF lK lM lN oK lQ (fun k_=>k_<w.heap.size) _ _ kE (fun k_=>k_<w.heap.size) _ _ kF Aaj At0 _ ?au ?ax A4.out).mono ?_);(case au=>exact Kd.Ald ES.out (Kd.DR (Kd.C_F (Kd.Qk .u8) ER.out) (bz HB)));(case ax=>exact Kd.Ald EW.out (Kd.DR (Kd.C_F (Kd.Qk .u8) EU.out) (bz HB)));rintro e w10 ⟨Ay6,rfl,ho0,hb⟩;refine ⟨_,rfl, ?_⟩;have ay:=Aside0.mk (Kd.R_lower (Kd.R_mono (ok':=fun k_=>True) ho0 (fun _ wF=>trivial)) (below_size (bz HB)));have aC:=Aside0.mk (aZ (kz qW) hb);have bg:=Aside0.mk (ag (bz HB) hb);clear qW;clear HB;have ND:=ay;have qW:=aC;have HB:=bg;clear ay aC bg;(try clear hb);(try clear hb2);(try clear hk);(try clear hi);(try clear ho0);obtain ⟨Ail,Aim,Ain⟩:=Kd.dN ND.out;subst Ain)|((with_reducible refine ai (f:=121) rfl ?_);refine gL 19 Try.func121 #[.int .u32 a0,.int .u32 a1,.int .u8 6,.int .i64 (Aaj.length:Int)] ?_;(with_reducible refine (nX.calls k a0 a1 6 (Aaj.length:Int) Ut _ A5.out).mono ?_);rintro e w' ⟨rfl,⟨nd,rfl⟩⟩;refine ⟨_,rfl, ?_⟩)|((with_reducible refine ai (f:=116) rfl ?_);refine gL 21 Try.func116 #[.int .u32 Ut,.slice Ail Aaj.length Aim] ?_;(with_reducible refine (jw.calls k Ut _ _ Aaj Uu _ ?au ?ax A6.out).mono ?_);(case au=>repeat (first|exact (Kd.R_reads' ND.out).2.2|(with_reducible refine Kd.iL ?_ _)|(with_reducible refine Kd.iD ?_ _)|(with_reducible refine Kd.jE ?_)));(case ax=>exact (Kd.R_reads' ND.out).2.1);rintro e w12 ⟨rfl,hb⟩;refine ⟨_,rfl, ?_⟩;have ay:=Aside0.mk (Kd.jd (Kd.rz ND) hb);have aC:=Aside0.mk (aZ (kz qW) hb);have bg:=Aside0.mk (ag (bz HB) hb);clear ND;clear qW;clear HB;have ND:=ay;have qW:=aC;have HB:=bg;clear ay aC bg;(try clear hb);(try clear hb2);(try clear hk);(try clear hi))|((with_reducible refine ai (f:=115) rfl ?_);refine gL 22 Try.func115 #[.int .u32 Uu] ?_;(with_reducible refine (fP.calls k Uu Aai _ A7.out).mono ?_);rintro e w' ⟨rfl,⟨nd,rfl⟩⟩;refine ⟨_,rfl, ?_⟩))
 go_ret2
 exact ⟨by first|rfl|(simp [ae,af]<;>rfl)|(simp [*,ae,af]<;>rfl),bz HB⟩
def uY.f (k:Nat) (a0:Int) (a1:Int) (fH:Int) (fJ:Int) (fF:Int) (lK:Int) (lM:Int) (lN:Int) (oK:Int) (lQ:Int) (kE:List Int) (kF:List Int):Option (Bool):=(uj.f k a0 a1 fH fJ fF lK lM lN oK lQ kE kF).bind fun Rk=>(if Rk.2=true then (some (Rk.1==65535)) else (some false))
theorem uY.calls (k:Nat) (a0:Int) (a1:Int) (fH:Int) (fJ:Int) (fF:Int) (lK:Int) (lM:Int) (lN:Int) (oK:Int) (lQ:Int) (rW:Option Addr) (rX:Nat) (kE:List Int) (rY:Option Addr) (rZ:Nat) (kF:List Int) (r:Bool) (w:World) (Dk:Kd.C (Kd.int .u8) w rW kE.length kE) (Dl:kE.length<=rX) (Dn:Kd.C (Kd.int .u8) w rY kF.length kF) (Dp:kF.length<=rZ) (h:uY.f k a0 a1 fH fJ fF lK lM lN oK lQ kE kF=some r):
  Calls Try.prog 159 #[.int .u32 a0,.int .u32 a1,.agg #[.int .u16 fH,.int .u16 fJ,.int .u32 fF,.int .u32 lK,.int .u8 lM,.int .u16 lN,.int .u16 oK,.int .u16 lQ,.slice rW kE.length rX,.slice rY kF.length rZ]] w fun e w'=>e= .returned (.bool r) /\ Below w.heap.size w w':=by
 have Ag:=Try.underlying137;have ER:=Aside0.mk Dk;have ES:=Aside0.mk Dl;clear Dk Dl;have EU:=Aside0.mk Dn;have EW:=Aside0.mk Dp;clear Dn Dp;have HB:=jy w;have H:((uj.f k a0 a1 fH fJ fF lK lM lN oK lQ kE kF).bind fun Rk=>(if Rk.2=true then (some (Rk.1==65535)) else (some false)))=some r:=h;clear h;replace H:=dM H;obtain ⟨⟨AiH,At1⟩,yz,H⟩:=H
 (try dsimp -simprocs only at H)
 have A4:=Aside0.mk yz;clear yz
 by_cases c5:At1=true
 ·subst c5
  have H1:(some (AiH==65535))=some r:=by rw [ah rfl] at H;exact H
  clear H;have H:=H1;clear H1;obtain rfl:=eF H
  go_enter Try.func159,Try.ntmps159
  go_wp2_with (first|((with_reducible refine gate_dst (N:=5) rfl ?_);refine box_event ?hg (N:=5) ?hd (cs:= #[.int .u16 fH,.int .u16 fJ,.int .u32 fF,.int .u32 lK,.int .u8 lM,.int .u16 lN,.int .u16 oK,.int .u16 lQ,.slice rW kE.length rX,.slice rY kF.length rZ]) (t:=137) ?hr ?_;(case hd=>rfl);(case hg=>rfl);(case hr=>first|(go_simp;done)|(go_simp;rfl));intro rH hg w6 hbox hb;have ay:=Aside0.mk (ag (bz HB) hb);have aC:=Aside0.mk (hbox);have bg:=Aside0.mk ((by rw [hg];exact (below_size (bz HB)):w.heap.size<=rH));have dm:=Aside0.mk ((by rw [hg];exact (below_size (bz HB)):w.heap.size<=rH));clear HB;have HB:=ay;have jZ:=aC;have AmP:=bg;have AmQ:=dm;clear ay aC bg dm;clear hb hbox hg;have AZ:w6.cell? ⟨rH,0,none⟩=some (.int .u16 fH):=cz jZ.out 0 rfl;have Ba:w6.cell? ⟨rH,1,none⟩=some (.int .u16 fJ):=cz jZ.out 1 rfl;have Bc:w6.cell? ⟨rH,2,none⟩=some (.int .u32 fF):=cz jZ.out 2 rfl;have Bd:w6.cell? ⟨rH,3,none⟩=some (.int .u32 lK):=cz jZ.out 3 rfl;have CX:w6.cell? ⟨rH,4,none⟩=some (.int .u8 lM):=cz jZ.out 4 rfl;have ZT:w6.cell? ⟨rH,5,none⟩=some (.int .u16 lN):=cz jZ.out 5 rfl;have ZU:w6.cell? ⟨rH,6,none⟩=some (.int .u16 oK):=cz jZ.out 6 rfl;have ZV:w6.cell? ⟨rH,7,none⟩=some (.int .u16 lQ):=cz jZ.out 7 rfl;have ZW:w6.cell? ⟨rH,8,none⟩=some (.slice rW kE.length rX):=cz jZ.out 8 rfl;have ZX:w6.cell? ⟨rH,9,none⟩=some (.slice rY kF.length rZ):=cz jZ.out 9 rfl;have Be:=blk_frozen jZ.out 0;have Bf:=blk_frozen jZ.out 1;have Bg:=blk_frozen jZ.out 2;have Bh:=blk_frozen jZ.out 3;have CY:=blk_frozen jZ.out 4;have ZY:=blk_frozen jZ.out 5;have ZZ:=blk_frozen jZ.out 6;have Z4:=blk_frozen jZ.out 7;have Z5:=blk_frozen jZ.out 8;have Z7:=blk_frozen jZ.out 9)|((with_reducible refine ai (f:=126) rfl ?_);refine gL 13 Try.func126 #[.int .u32 a0,.int .u32 a1,.agg #[.int .u16 fH,.int .u16 fJ,.int .u32 fF,.int .u32 lK,.int .u8 lM,.int .u16 lN,.int .u16 oK,.int .u16 lQ,.slice rW kE.length rX,.slice rY kF.length rZ]] ?_;(with_reducible refine (uj.calls k a0 a1 fH fJ fF lK lM lN oK lQ _ _ kE _ _ kF AiH true _ ?au ?ax ?Ah ?Aj A4.out).mono ?_);(case au=>exact Kd.aJ ER.out (bz HB));(case ax=>exact ES.out);(case Ah=>exact Kd.aJ EU.out (bz HB));(case Aj=>exact EW.out);rintro e w8 ⟨rfl,hb⟩;refine ⟨_,rfl, ?_⟩;have ay:=Aside0.mk (aZ (kz jZ) hb);have aC:=Aside0.mk (ag (bz HB) hb);clear jZ;clear HB;have jZ:=ay;have HB:=aC;clear ay aC;(try clear hb);(try clear hb2);(try clear hk);(try clear hi)))
  go_ret
  exact ⟨by first|rfl|(simp [ae,af]<;>rfl)|(simp [*,ae,af]<;>rfl),bz HB⟩
 ·replace c5:=FT c5
  subst c5;have H1:(some false)=some r:=by rw [aj (show ¬ (false=true) by decide)] at H;exact H
  clear H;have H:=H1;clear H1;obtain rfl:=eF H
  go_enter Try.func159,Try.ntmps159
  go_wp2_with (first|((with_reducible refine gate_dst (N:=5) rfl ?_);refine box_event ?hg (N:=5) ?hd (cs:= #[.int .u16 fH,.int .u16 fJ,.int .u32 fF,.int .u32 lK,.int .u8 lM,.int .u16 lN,.int .u16 oK,.int .u16 lQ,.slice rW kE.length rX,.slice rY kF.length rZ]) (t:=137) ?hr ?_;(case hd=>rfl);(case hg=>rfl);(case hr=>first|(go_simp;done)|(go_simp;rfl));intro rH hg w9 hbox hb;have ay:=Aside0.mk (ag (bz HB) hb);have aC:=Aside0.mk (hbox);have bg:=Aside0.mk ((by rw [hg];exact (below_size (bz HB)):w.heap.size<=rH));have dm:=Aside0.mk ((by rw [hg];exact (below_size (bz HB)):w.heap.size<=rH));clear HB;have HB:=ay;have jZ:=aC;have AmP:=bg;have AmQ:=dm;clear ay aC bg dm;clear hb hbox hg;have zk:w9.cell? ⟨rH,0,none⟩=some (.int .u16 fH):=cz jZ.out 0 rfl;have zl:w9.cell? ⟨rH,1,none⟩=some (.int .u16 fJ):=cz jZ.out 1 rfl;have zn:w9.cell? ⟨rH,2,none⟩=some (.int .u32 fF):=cz jZ.out 2 rfl;have zo:w9.cell? ⟨rH,3,none⟩=some (.int .u32 lK):=cz jZ.out 3 rfl;have Gq:w9.cell? ⟨rH,4,none⟩=some (.int .u8 lM):=cz jZ.out 4 rfl;have Jl:w9.cell? ⟨rH,5,none⟩=some (.int .u16 lN):=cz jZ.out 5 rfl;have Jm:w9.cell? ⟨rH,6,none⟩=some (.int .u16 oK):=cz jZ.out 6 rfl;have Jn:w9.cell? ⟨rH,7,none⟩=some (.int .u16 lQ):=cz jZ.out 7 rfl;have Jo:w9.cell? ⟨rH,8,none⟩=some (.slice rW kE.length rX):=cz jZ.out 8 rfl;have Jp:w9.cell? ⟨rH,9,none⟩=some (.slice rY kF.length rZ):=cz jZ.out 9 rfl;have zq:=blk_frozen jZ.out 0;have zu:=blk_frozen jZ.out 1;have zx:=blk_frozen jZ.out 2;have zy:=blk_frozen jZ.out 3;have Gs:=blk_frozen jZ.out 4;have Jq:=blk_frozen jZ.out 5;have Jr:=blk_frozen jZ.out 6;have Js:=blk_frozen jZ.out 7;have Jt:=blk_frozen jZ.out 8;have Ju:=blk_frozen jZ.out 9)|((with_reducible refine ai (f:=126) rfl ?_);refine gL 13 Try.func126 #[.int .u32 a0,.int .u32 a1,.agg #[.int .u16 fH,.int .u16 fJ,.int .u32 fF,.int .u32 lK,.int .u8 lM,.int .u16 lN,.int .u16 oK,.int .u16 lQ,.slice rW kE.length rX,.slice rY kF.length rZ]] ?_;(with_reducible refine (uj.calls k a0 a1 fH fJ fF lK lM lN oK lQ _ _ kE _ _ kF AiH false _ ?au ?ax ?Ah ?Aj A4.out).mono ?_);(case au=>exact Kd.aJ ER.out (bz HB));(case ax=>exact ES.out);(case Ah=>exact Kd.aJ EU.out (bz HB));(case Aj=>exact EW.out);rintro e w11 ⟨rfl,hb⟩;refine ⟨_,rfl, ?_⟩;have ay:=Aside0.mk (aZ (kz jZ) hb);have aC:=Aside0.mk (ag (bz HB) hb);clear jZ;clear HB;have jZ:=ay;have HB:=aC;clear ay aC;(try clear hb);(try clear hb2);(try clear hk);(try clear hi)))
  go_ret
  exact ⟨by first|rfl|(simp [ae,af]<;>rfl)|(simp [*,ae,af]<;>rfl),bz HB⟩
attribute [local go_sem] dV dW gI gJ dG dH dX dY
def oW.f (k:Nat) (aI:Int) (aV:Int) (aX:Int) (bn:Int) (eP:Int) (eX:Int) (fC:Int) (fD:Int) (bD:List Int) (dw:List Int) (En:Int) (Eo:Int) (Ep:Int) (Es:Int) (Et:Int) (Eu:Int) (yA:Int) (yB:Int) (xI:List Int) (xJ:List Int):Option (Bool):=(uY.f k yA yB aI aV aX bn eP eX fC fD bD dw).bind fun XF=>(some XF)
theorem oW.calls (k:Nat) (aI:Int) (aV:Int) (aX:Int) (bn:Int) (eP:Int) (eX:Int) (fC:Int) (fD:Int) (lX:Option Addr) (lY:Nat) (bD:List Int) (lZ:Option Addr) (l7:Nat) (dw:List Int) (En:Int) (Eo:Int) (Ep:Int) (Es:Int) (Et:Int) (Eu:Int) (yA:Int) (yB:Int) (Hl:Option Addr) (Ho:Nat) (xI:List Int) (Hq:Option Addr) (Hr:Nat) (xJ:List Int) (r:Bool) (w:World) (zD:Kd.C (Kd.int .u8) w lX bD.length bD) (zF:bD.length<=lY) (zG:Kd.C (Kd.int .u8) w lZ dw.length dw) (zH:dw.length<=l7) (Ir:Kd.C (Kd.int .u8) w Hl xI.length xI) (Iu:xI.length<=Ho) (Iw:Kd.C (Kd.int .u8) w Hq xJ.length xJ) (Iy:xJ.length<=Hr) (h:oW.f k aI aV aX bn eP eX fC fD bD dw En Eo Ep Es Et Eu yA yB xI xJ=some r):
  Calls Try.prog 158 #[.agg #[.int .u16 aI,.int .u16 aV,.int .u32 aX,.int .u32 bn,.int .u8 eP,.int .u16 eX,.int .u16 fC,.int .u16 fD,.slice lX bD.length lY,.slice lZ dw.length l7],.agg #[.int .u8 En,.int .u8 Eo,.int .u8 Ep,.int .u16 Es,.int .u8 Et,.int .u16 Eu,.int .u32 yA,.int .u32 yB,.slice Hl xI.length Ho,.slice Hq xJ.length Hr]] w fun e w'=>e= .returned (.bool r) /\ Below w.heap.size w w':=by
 have Rl:=Try.underlying181;have hu73:=Try.underlying73;have Ag:=Try.underlying137;have IA:=Aside0.mk zD;have Rn:=Aside0.mk zF;clear zD zF;have IB:=Aside0.mk zG;have Ro:=Aside0.mk zH;clear zG zH;have Afd:=Aside0.mk Ir;have Afe:=Aside0.mk Iu;clear Ir Iu;have Aff:=Aside0.mk Iw;have Afg:=Aside0.mk Iy;clear Iw Iy;have HB:=jy w;have H:((uY.f k yA yB aI aV aX bn eP eX fC fD bD dw).bind fun XF=>(some XF))=some r:=h;clear h;replace H:=dM H;obtain ⟨XF,CB,H⟩:=H;replace H:(some XF)=some r:=H;have A3:=Aside0.mk CB;clear CB;obtain rfl:=eF H
 go_enter Try.func158,Try.ntmps158
 go_wp2_with (first|((with_reducible refine gate_dst (N:=2) rfl ?_);refine box_event ?hg (N:=2) ?hd (cs:= #[.int .u16 aI,.int .u16 aV,.int .u32 aX,.int .u32 bn,.int .u8 eP,.int .u16 eX,.int .u16 fC,.int .u16 fD,.slice lX bD.length lY,.slice lZ dw.length l7]) (t:=181) ?hr ?_;(case hd=>rfl);(case hg=>rfl);(case hr=>first|(go_simp;done)|(go_simp;rfl));intro yl hg w4 hbox hb;have ay:=Aside0.mk (ag (bz HB) hb);have aC:=Aside0.mk (hbox);have bg:=Aside0.mk ((by rw [hg];exact (below_size (bz HB)):w.heap.size<=yl));have dm:=Aside0.mk ((by rw [hg];exact (below_size (bz HB)):w.heap.size<=yl));clear HB;have HB:=ay;have qC:=aC;have Aw1:=bg;have Aw2:=dm;clear ay aC bg dm;clear hb hbox hg)|((with_reducible refine gate_dst (N:=3) rfl ?_);refine box_event ?hg (N:=3) ?hd (cs:= #[.int .u8 En,.int .u8 Eo,.int .u8 Ep,.int .u16 Es,.int .u8 Et,.int .u16 Eu,.int .u32 yA,.int .u32 yB,.slice Hl xI.length Ho,.slice Hq xJ.length Hr]) (t:=73) ?hr ?_;(case hd=>rfl);(case hg=>rfl);(case hr=>first|(go_simp;done)|(go_simp;rfl));intro zI hg w5 hbox hb;have ay:=Aside0.mk (aZ (kz qC) hb);have aC:=Aside0.mk (ag (bz HB) hb);have bg:=Aside0.mk (hbox);have dm:=Aside0.mk ((by rw [hg];exact (below_size (bz HB)):w.heap.size<=zI));have Ae:=Aside0.mk ((by rw [hg];exact (below_size (bz HB)):w.heap.size<=zI));have EP:=Aside0.mk ((by rw [hg];exact Nat.ne_of_lt (qG (g:=yl) (o:= .cells #[.int .u16 aI,.int .u16 aV,.int .u32 aX,.int .u32 bn,.int .u8 eP,.int .u16 eX,.int .u16 fC,.int .u16 fD,.slice lX bD.length lY,.slice lZ dw.length l7] 181 (0,0)) (kz qC)):yl≠zI));have Iz:=Aside0.mk ((by rw [hg];exact Nat.ne_of_gt (qG (g:=yl) (o:= .cells #[.int .u16 aI,.int .u16 aV,.int .u32 aX,.int .u32 bn,.int .u8 eP,.int .u16 eX,.int .u16 fC,.int .u16 fD,.slice lX bD.length lY,.slice lZ dw.length l7] 181 (0,0)) (kz qC)):zI≠yl));clear qC;clear HB;have qC:=ay;have HB:=aC;have sJ:=bg;have Aw3:=dm;have Aw4:=Ae;have XG:=EP;have XH:=Iz;clear ay aC bg dm Ae EP Iz;clear hb hbox hg;have AmA:=XH.out;have AmB:=XG.out;have AZ:w5.cell? ⟨zI,0,none⟩=some (.int .u8 En):=cz sJ.out 0 rfl;have Ba:w5.cell? ⟨zI,1,none⟩=some (.int .u8 Eo):=cz sJ.out 1 rfl;have Bc:w5.cell? ⟨zI,2,none⟩=some (.int .u8 Ep):=cz sJ.out 2 rfl;have Bd:w5.cell? ⟨zI,3,none⟩=some (.int .u16 Es):=cz sJ.out 3 rfl;have CX:w5.cell? ⟨zI,4,none⟩=some (.int .u8 Et):=cz sJ.out 4 rfl;have ZT:w5.cell? ⟨zI,5,none⟩=some (.int .u16 Eu):=cz sJ.out 5 rfl;have ZU:w5.cell? ⟨zI,6,none⟩=some (.int .u32 yA):=cz sJ.out 6 rfl;have ZV:w5.cell? ⟨zI,7,none⟩=some (.int .u32 yB):=cz sJ.out 7 rfl;have ZW:w5.cell? ⟨zI,8,none⟩=some (.slice Hl xI.length Ho):=cz sJ.out 8 rfl;have ZX:w5.cell? ⟨zI,9,none⟩=some (.slice Hq xJ.length Hr):=cz sJ.out 9 rfl;have Be:=blk_frozen sJ.out 0;have Bf:=blk_frozen sJ.out 1;have Bg:=blk_frozen sJ.out 2;have Bh:=blk_frozen sJ.out 3;have CY:=blk_frozen sJ.out 4;have ZY:=blk_frozen sJ.out 5;have ZZ:=blk_frozen sJ.out 6;have Z4:=blk_frozen sJ.out 7;have Z5:=blk_frozen sJ.out 8;have Z7:=blk_frozen sJ.out 9;have Ug:w5.cell? ⟨yl,0,none⟩=some (.int .u16 aI):=cz qC.out 0 rfl;have Uh:w5.cell? ⟨yl,1,none⟩=some (.int .u16 aV):=cz qC.out 1 rfl;have Ui:w5.cell? ⟨yl,2,none⟩=some (.int .u32 aX):=cz qC.out 2 rfl;have Uj:w5.cell? ⟨yl,3,none⟩=some (.int .u32 bn):=cz qC.out 3 rfl;have AiI:w5.cell? ⟨yl,4,none⟩=some (.int .u8 eP):=cz qC.out 4 rfl;have AiJ:w5.cell? ⟨yl,5,none⟩=some (.int .u16 eX):=cz qC.out 5 rfl;have AiK:w5.cell? ⟨yl,6,none⟩=some (.int .u16 fC):=cz qC.out 6 rfl;have AiL:w5.cell? ⟨yl,7,none⟩=some (.int .u16 fD):=cz qC.out 7 rfl;have AiM:w5.cell? ⟨yl,8,none⟩=some (.slice lX bD.length lY):=cz qC.out 8 rfl;have AiN:w5.cell? ⟨yl,9,none⟩=some (.slice lZ dw.length l7):=cz qC.out 9 rfl;have Uk:=blk_frozen qC.out 0;have Ul:=blk_frozen qC.out 1;have Um:=blk_frozen qC.out 2;have Un:=blk_frozen qC.out 3;have AiO:=blk_frozen qC.out 4;have AiP:=blk_frozen qC.out 5;have AiQ:=blk_frozen qC.out 6;have AiR:=blk_frozen qC.out 7;have AiS:=blk_frozen qC.out 8;have AiT:=blk_frozen qC.out 9)|((with_reducible refine ai (f:=159) rfl ?_);refine gL 11 Try.func159 #[.int .u32 yA,.int .u32 yB,.agg #[.int .u16 aI,.int .u16 aV,.int .u32 aX,.int .u32 bn,.int .u8 eP,.int .u16 eX,.int .u16 fC,.int .u16 fD,.slice lX bD.length lY,.slice lZ dw.length l7]] ?_;(with_reducible refine (uY.calls k yA yB aI aV aX bn eP eX fC fD _ _ bD _ _ dw XF _ ?au ?ax ?Ah ?Aj A3.out).mono ?_);(case au=>exact Kd.aJ IA.out (bz HB));(case ax=>exact Rn.out);(case Ah=>exact Kd.aJ IB.out (bz HB));(case Aj=>exact Ro.out);rintro e w9 ⟨rfl,hb⟩;refine ⟨_,rfl, ?_⟩;have ay:=Aside0.mk (aZ (kz qC) hb);have aC:=Aside0.mk (aZ (kz sJ) hb);have bg:=Aside0.mk (ag (bz HB) hb);clear qC;clear sJ;clear HB;have qC:=ay;have sJ:=aC;have HB:=bg;clear ay aC bg;(try clear hb);(try clear hb2);(try clear hk);(try clear hi)))
 go_ret
 exact ⟨by first|rfl|(simp [ae,af]<;>rfl)|(simp [*,ae,af]<;>rfl),bz HB⟩
attribute [local go_sem] dV dW gI gJ dG dH dX dY
def kJ.f (aI:Int) (aV:Int) (aX:Int) (bn:Int) (bY:List Int):Option (List Int×Int):=if (wrap64 (8+(bY.length:Int)))>65515 then (some (([]:List Int),23)) else ((some (([aI,aV,(aX / 256) % 256,(aX) % 256,(bn / 16777216) % 256,(bn / 65536) % 256,(bn / 256) % 256,(bn) % 256]:List Int):List Int)).bind fun KG=>(if KG.length+bY.length<140737488355328 then (some ((KG++bY),0)) else (none)))
theorem kJ.calls (aI:Int) (aV:Int) (aX:Int) (bn:Int) (iO:Option Addr) (iP:Nat) (bY:List Int) (r1:List Int) (r2:Int) (w:World) (nI:Kd.C (Kd.int .u8) w iO bY.length bY) (nJ:bY.length<=iP) (h:kJ.f aI aV aX bn bY=some (r1,r2)):
  Calls Try.prog 112 #[.agg #[.int .u8 aI,.int .u8 aV,.int .u16 aX,.int .u32 bn,.slice iO bY.length iP]] w fun e w'=>∃ uP:Value,e= .returned (.tuple #[uP,.int .i64 r2]) /\ Kd.R (Kd.int .u8) 5 w' w.heap.size (fun _=>True) uP r1 /\ Below w.heap.size w w':=by
 have uQ:=Try.underlying101;have uu:=Aside0.mk nI;have uS:=Aside0.mk nJ;clear nI nJ;have HB:=jy w;have H:(if (wrap64 (8+(bY.length:Int)))>65515 then (some (([]:List Int),23)) else ((some (([aI,aV,(aX / 256) % 256,(aX) % 256,(bn / 16777216) % 256,(bn / 65536) % 256,(bn / 256) % 256,(bn) % 256]:List Int):List Int)).bind fun KG=>(if KG.length+bY.length<140737488355328 then (some ((KG++bY),0)) else (none))))=some (r1,r2):=h;clear h
 by_cases c2:(wrap64 (8+(bY.length:Int)))>65515
 ·rw [ah c2] at H
  have nV:decide (65515<(wrap64 (8+(bY.length:Int))))=true:=bJ c2;clear c2;simp only [Option.some.injEq,Prod.mk.injEq] at H
  obtain ⟨rfl,rfl⟩:=H
  go_enter Try.func112,Try.ntmps112
  go_wp2_with (first|((with_reducible refine gate_dst (N:=1) rfl ?_);refine box_event ?hg (N:=1) ?hd (cs:= #[.int .u8 aI,.int .u8 aV,.int .u16 aX,.int .u32 bn,.slice iO bY.length iP]) (t:=101) ?hr ?_;(case hd=>rfl);(case hg=>rfl);(case hr=>first|(go_simp;done)|(go_simp;rfl));intro uZ hg w3 hbox hb;have ay:=Aside0.mk (ag (bz HB) hb);have aC:=Aside0.mk (hbox);have bg:=Aside0.mk ((by rw [hg];exact (below_size (bz HB)):w.heap.size<=uZ));have dm:=Aside0.mk ((by rw [hg];exact (below_size (bz HB)):w.heap.size<=uZ));clear HB;have HB:=ay;have lJ:=aC;have AmR:=bg;have AmS:=dm;clear ay aC bg dm;clear hb hbox hg;have vK:w3.cell? ⟨uZ,0,none⟩=some (.int .u8 aI):=cz lJ.out 0 rfl;have vM:w3.cell? ⟨uZ,1,none⟩=some (.int .u8 aV):=cz lJ.out 1 rfl;have vN:w3.cell? ⟨uZ,2,none⟩=some (.int .u16 aX):=cz lJ.out 2 rfl;have vO:w3.cell? ⟨uZ,3,none⟩=some (.int .u32 bn):=cz lJ.out 3 rfl;have zU:w3.cell? ⟨uZ,4,none⟩=some (.slice iO bY.length iP):=cz lJ.out 4 rfl;have vP:=blk_frozen lJ.out 0;have vS:=blk_frozen lJ.out 1;have vT:=blk_frozen lJ.out 2;have vU:=blk_frozen lJ.out 3;have zV:=blk_frozen lJ.out 4))
  go_ret2
  exact ⟨_,by first|rfl|(simp [ae,af]<;>rfl)|(simp [*,ae,af]<;>rfl),by first|exact Kd.bV _ _ _ _ _|exact Kd.lV _ _ _ _ _|exact Kd.lW _ _ _ _ _|exact Kd.lT _ _ _ _ _|exact Kd.lU _ _ _ _ _,bz HB⟩
 ·rw [aj c2] at H
  have nV:decide (65515<(wrap64 (8+(bY.length:Int))))=false:=jC c2;clear c2;obtain ⟨KG,Rq⟩:∃ y_:List Int,y_=(([aI,aV,(aX / 256) % 256,(aX) % 256,(bn / 16777216) % 256,(bn / 65536) % 256,(bn / 256) % 256,(bn) % 256]:List Int)):=⟨_,rfl⟩
  replace H:(if KG.length+bY.length<140737488355328 then (some ((KG++bY),0)) else (none))=some (r1,r2):=by first|(rw [Rq];with_reducible exact H)|(have oO:=(bG _ _).symm.trans H;rw [Rq];with_reducible exact oO)|(have oO:=(bG _ _).symm.trans H;with_reducible exact oO)|with_reducible exact H|(rw [Rq];exact H)|exact H
  have Afr:=Aside0.mk Rq;clear Rq
  by_cases c5:KG.length+bY.length<140737488355328
  ·rw [ah c5] at H
   have Aik:=Aside0.mk c5;clear c5;obtain ⟨At2,Rt⟩:∃ y_:List Int,y_=(KG++bY):=⟨_,rfl⟩
   replace H:(some (At2,0))=some (r1,r2):=by first|(rw [Rt];with_reducible exact H)|(have oO:=(bG _ _).symm.trans H;rw [Rt];with_reducible exact oO)|(have oO:=(bG _ _).symm.trans H;with_reducible exact oO)|with_reducible exact H|(rw [Rt];exact H)|exact H
   have AmT:=Aside0.mk Rt;clear Rt;simp only [Option.some.injEq,Prod.mk.injEq] at H
   obtain ⟨rfl,rfl⟩:=H
   go_enter Try.func112,Try.ntmps112
   go_wp2_with (first|((with_reducible refine gate_dst (N:=1) rfl ?_);refine box_event ?hg (N:=1) ?hd (cs:= #[.int .u8 aI,.int .u8 aV,.int .u16 aX,.int .u32 bn,.slice iO bY.length iP]) (t:=101) ?hr ?_;(case hd=>rfl);(case hg=>rfl);(case hr=>first|(go_simp;done)|(go_simp;rfl));intro uZ hg w6 hbox hb;have ay:=Aside0.mk (ag (bz HB) hb);have aC:=Aside0.mk (hbox);have bg:=Aside0.mk ((by rw [hg];exact (below_size (bz HB)):w.heap.size<=uZ));have dm:=Aside0.mk ((by rw [hg];exact (below_size (bz HB)):w.heap.size<=uZ));clear HB;have HB:=ay;have lJ:=aC;have AmR:=bg;have AmS:=dm;clear ay aC bg dm;clear hb hbox hg;have AZ:w6.cell? ⟨uZ,0,none⟩=some (.int .u8 aI):=cz lJ.out 0 rfl;have Ba:w6.cell? ⟨uZ,1,none⟩=some (.int .u8 aV):=cz lJ.out 1 rfl;have Bc:w6.cell? ⟨uZ,2,none⟩=some (.int .u16 aX):=cz lJ.out 2 rfl;have Bd:w6.cell? ⟨uZ,3,none⟩=some (.int .u32 bn):=cz lJ.out 3 rfl;have CX:w6.cell? ⟨uZ,4,none⟩=some (.slice iO bY.length iP):=cz lJ.out 4 rfl;have Be:=blk_frozen lJ.out 0;have Bf:=blk_frozen lJ.out 1;have Bg:=blk_frozen lJ.out 2;have Bh:=blk_frozen lJ.out 3;have CY:=blk_frozen lJ.out 4)|((with_reducible refine gate_dst (N:=35) rfl ?_);refine Kd.wI (Kd.int .u8) _ 5 ?hg (N:=35) ?hd (xs:=([aI,aV,(aX / 256) % 256,(aX) % 256,(bn / 16777216) % 256,(bn / 65536) % 256,(bn / 256) % 256,(bn) % 256]:List Int)) (inner:=[.int .u8 aI,.int .u8 aV,.int .u8 ((aX / 256) % 256),.int .u8 ((aX) % 256),.int .u8 ((bn / 16777216) % 256),.int .u8 ((bn / 65536) % 256),.int .u8 ((bn / 256) % 256),.int .u8 ((bn) % 256)]) (ok:=fun _=>True) (xw:=fun _=>True) ?hr ?hp (fun _ hk=>hk) trivial (Below.refl _ _) (Nat.le_refl _) (by simp) ?_;(case hd=>rfl);(case hg=>rfl);(case hr=>first|(go_simp;done)|(go_simp;simp only [IntKind.wrap_u8,IntKind.wrap_u16,IntKind.wrap_u32];done)|(go_simp;rfl));(case hp=>exact (dn.one (show Kd.M (Kd.int .u8) _ _ _ aI [.int .u8 aI] from rfl) (dn.one (show Kd.M (Kd.int .u8) _ _ _ aV [.int .u8 aV] from rfl) (dn.one (show Kd.M (Kd.int .u8) _ _ _ ((aX / 256) % 256) [.int .u8 ((aX / 256) % 256)] from rfl) (dn.one (show Kd.M (Kd.int .u8) _ _ _ ((aX) % 256) [.int .u8 ((aX) % 256)] from rfl) (dn.one (show Kd.M (Kd.int .u8) _ _ _ ((bn / 16777216) % 256) [.int .u8 ((bn / 16777216) % 256)] from rfl) (dn.one (show Kd.M (Kd.int .u8) _ _ _ ((bn / 65536) % 256) [.int .u8 ((bn / 65536) % 256)] from rfl) (dn.one (show Kd.M (Kd.int .u8) _ _ _ ((bn / 256) % 256) [.int .u8 ((bn / 256) % 256)] from rfl) (dn.one (show Kd.M (Kd.int .u8) _ _ _ ((bn) % 256) [.int .u8 ((bn) % 256)] from rfl) (dn.none _ _))))))))));intro At3 w8 ho9 hb hg_ kP;clear hg_ kP;(first|rw [<- Afr.out] at ho9|(simp only [Int.reduceToNat] at ho9;rw [<- Afr.out] at ho9));have ay:=Aside0.mk (Kd.R_lower ho9 (below_size (bz HB)));have aC:=Aside0.mk (aZ (kz lJ) hb);have bg:=Aside0.mk (ag (bz HB) hb);clear lJ;clear HB;have Aak:=ay;have lJ:=aC;have HB:=bg;clear ay aC bg;clear hb ho9;have zk:w8.cell? ⟨uZ,0,none⟩=some (.int .u8 aI):=cz lJ.out 0 rfl;have zl:w8.cell? ⟨uZ,1,none⟩=some (.int .u8 aV):=cz lJ.out 1 rfl;have zn:w8.cell? ⟨uZ,2,none⟩=some (.int .u16 aX):=cz lJ.out 2 rfl;have zo:w8.cell? ⟨uZ,3,none⟩=some (.int .u32 bn):=cz lJ.out 3 rfl;have Gq:w8.cell? ⟨uZ,4,none⟩=some (.slice iO bY.length iP):=cz lJ.out 4 rfl;have zq:=blk_frozen lJ.out 0;have zu:=blk_frozen lJ.out 1;have zx:=blk_frozen lJ.out 2;have zy:=blk_frozen lJ.out 3;have Gs:=blk_frozen lJ.out 4)|((with_reducible refine iF (b:= .append) (xs:= #[.tmp 35,.tmp 37]) rfl ?_);at_builtin;refine Kd.jv (Kd.int .u8) (w0:=w) w.heap.size rfl (.tmp 35) (.tmp 37) 23 5 (.int .u8 0) 1 rfl Try.underlying23 info5 rfl (by decide) (by omega) At3 KG bY _ _ _ (fun _=>True) (fun _=>False) rfl rfl ?aO ?aR (fun _ _ h=>h) (fun _ h=>h.elim) ?aF ?aB ?aS ?aL ?_;(case aR=>exact Kd.aJ uu.out (bz HB));(case aB=>exact bz HB);(case aF=>exact (fun _ _=>trivial));(case aO=>exact (Kd.rz Aak));(case aS=>exact (below_size (bz HB)));(case aL=>have:=Aik.out;omega);intro Ay7 w11 ho hb hg hat;rw [<- AmT.out] at ho;have ay:=Aside0.mk (jK (kz lJ) hg (Kd.rV Aak.out lJ.out (by decide)));have aC:=Aside0.mk (hb);have bg:=Aside0.mk (ho);clear lJ;clear HB;clear Aak;have lJ:=ay;have HB:=aC;have AmU:=bg;clear ay aC bg;clear ho hb hg hat))
   go_ret2
   exact ⟨_,by first|rfl|(simp [ae,af]<;>rfl)|(simp [*,ae,af]<;>rfl),by (with_reducible repeat (first|apply Kd.ik|apply Kd.gV|apply Kd.iq));exact AmU.out,bz HB⟩
  ·rw [aj c5] at H
   cases H
def sK.f (k:Nat) (aI:Int) (aV:Int) (aX:Int) (bn:Int) (bY:List Int):Option (Bool):=(kJ.f aI aV aX bn bY).bind fun Ru=>(if Ru.2=0 then ((uy.f k Ru.1).bind fun Aal=>(some (Aal==0))) else (some false))
theorem sK.calls (k:Nat) (aI:Int) (aV:Int) (aX:Int) (bn:Int) (iO:Option Addr) (iP:Nat) (bY:List Int) (r:Bool) (w:World) (nI:Kd.C (Kd.int .u8) w iO bY.length bY) (nJ:bY.length<=iP) (h:sK.f k aI aV aX bn bY=some r):
  Calls Try.prog 162 #[.agg #[.int .u8 aI,.int .u8 aV,.int .u16 aX,.int .u32 bn,.slice iO bY.length iP]] w fun e w'=>e= .returned (.bool r) /\ Below w.heap.size w w':=by
 have uQ:=Try.underlying101;have uu:=Aside0.mk nI;have uS:=Aside0.mk nJ;clear nI nJ;have HB:=jy w;have H:((kJ.f aI aV aX bn bY).bind fun Ru=>(if Ru.2=0 then ((uy.f k Ru.1).bind fun Aal=>(some (Aal==0))) else (some false)))=some r:=h;clear h;replace H:=dM H;obtain ⟨⟨AiU,Uw⟩,Aw,H⟩:=H
 (try dsimp -simprocs only at H)
 have A2:=Aside0.mk Aw;clear Aw
 by_cases c3:Uw=0
 ·rw [ah c3] at H
  have tY:(Uw==0)=true:=jf c3;have vI:(Uw !=0)=false:=oM c3;clear c3;replace H:=dM H;obtain ⟨Aal,yz,H⟩:=H
  (try dsimp -simprocs only at H)
  have A4:=Aside0.mk yz;clear yz;obtain rfl:=eF H
  go_enter Try.func162,Try.ntmps162
  go_wp2_with (first|((with_reducible refine gate_dst (N:=1) rfl ?_);refine box_event ?hg (N:=1) ?hd (cs:= #[.int .u8 aI,.int .u8 aV,.int .u16 aX,.int .u32 bn,.slice iO bY.length iP]) (t:=101) ?hr ?_;(case hd=>rfl);(case hg=>rfl);(case hr=>first|(go_simp;done)|(go_simp;rfl));intro yP hg w5 hbox hb;have ay:=Aside0.mk (ag (bz HB) hb);have aC:=Aside0.mk (hbox);have bg:=Aside0.mk ((by rw [hg];exact (below_size (bz HB)):w.heap.size<=yP));have dm:=Aside0.mk ((by rw [hg];exact (below_size (bz HB)):w.heap.size<=yP));clear HB;have HB:=ay;have o7:=aC;have AmV:=bg;have AmW:=dm;clear ay aC bg dm;clear hb hbox hg;have OB:w5.cell? ⟨yP,0,none⟩=some (.int .u8 aI):=cz o7.out 0 rfl;have OC:w5.cell? ⟨yP,1,none⟩=some (.int .u8 aV):=cz o7.out 1 rfl;have OD:w5.cell? ⟨yP,2,none⟩=some (.int .u16 aX):=cz o7.out 2 rfl;have OE:w5.cell? ⟨yP,3,none⟩=some (.int .u32 bn):=cz o7.out 3 rfl;have Aam:w5.cell? ⟨yP,4,none⟩=some (.slice iO bY.length iP):=cz o7.out 4 rfl;have OG:=blk_frozen o7.out 0;have OH:=blk_frozen o7.out 1;have OI:=blk_frozen o7.out 2;have OJ:=blk_frozen o7.out 3;have Aan:=blk_frozen o7.out 4)|((with_reducible refine ai (f:=112) rfl ?_);refine gL 7 Try.func112 #[.agg #[.int .u8 aI,.int .u8 aV,.int .u16 aX,.int .u32 bn,.slice iO bY.length iP]] ?_;(with_reducible refine (kJ.calls aI aV aX bn _ _ bY AiU Uw _ ?au ?ax A2.out).mono ?_);(case au=>exact Kd.aJ uu.out (bz HB));(case ax=>exact uS.out);rintro e w7 ⟨At4,rfl,ho0,hb⟩;refine ⟨_,rfl, ?_⟩;have ay:=Aside0.mk (Kd.R_lower ho0 (below_size (bz HB)));have aC:=Aside0.mk (aZ (kz o7) hb);have bg:=Aside0.mk (ag (bz HB) hb);clear o7;clear HB;have KH:=ay;have o7:=aC;have HB:=bg;clear ay aC bg;(try clear hb);(try clear hb2);(try clear hk);(try clear hi);(try clear ho0);obtain ⟨Ao8,co8,eo8⟩:=Kd.dN KH.out;subst eo8)|(go_at_call 90;(with_reducible refine (uy.calls k _ _ AiU Aal _ ?au ?ax A4.out).mono ?_);(case au=>repeat (first|exact (Kd.R_reads' KH.out).2.2|(with_reducible refine Kd.iL ?_ _)|(with_reducible refine Kd.iD ?_ _)|(with_reducible refine Kd.jE ?_)));(case ax=>exact (Kd.R_reads' KH.out).2.1);rintro e w9 ⟨rfl,hb⟩;have ay:=Aside0.mk (Kd.jd (Kd.rz KH) hb);have aC:=Aside0.mk (aZ (kz o7) hb);have bg:=Aside0.mk (ag (bz HB) hb);clear KH;clear o7;clear HB;have KH:=ay;have o7:=aC;have HB:=bg;clear ay aC bg;(try clear hb);(try clear hb2);(try clear hk);(try clear hi)))
  go_ret
  exact ⟨by first|rfl|(simp [ae,af]<;>rfl)|(simp [*,ae,af]<;>rfl),bz HB⟩
 ·rw [aj c3] at H
  have tY:(Uw==0)=false:=iM c3;have vI:(Uw !=0)=true:=pq c3;obtain rfl:=eF H
  go_enter Try.func162,Try.ntmps162
  go_wp2_with (first|((with_reducible refine gate_dst (N:=1) rfl ?_);refine box_event ?hg (N:=1) ?hd (cs:= #[.int .u8 aI,.int .u8 aV,.int .u16 aX,.int .u32 bn,.slice iO bY.length iP]) (t:=101) ?hr ?_;(case hd=>rfl);(case hg=>rfl);(case hr=>first|(go_simp;done)|(go_simp;rfl));intro yP hg w10 hbox hb;have ay:=Aside0.mk (ag (bz HB) hb);have aC:=Aside0.mk (hbox);have bg:=Aside0.mk ((by rw [hg];exact (below_size (bz HB)):w.heap.size<=yP));have dm:=Aside0.mk ((by rw [hg];exact (below_size (bz HB)):w.heap.size<=yP));clear HB;have HB:=ay;have o7:=aC;have AmV:=bg;have AmW:=dm;clear ay aC bg dm;clear hb hbox hg;have DW:w10.cell? ⟨yP,0,none⟩=some (.int .u8 aI):=cz o7.out 0 rfl;have DX:w10.cell? ⟨yP,1,none⟩=some (.int .u8 aV):=cz o7.out 1 rfl;have DY:w10.cell? ⟨yP,2,none⟩=some (.int .u16 aX):=cz o7.out 2 rfl;have DZ:w10.cell? ⟨yP,3,none⟩=some (.int .u32 bn):=cz o7.out 3 rfl;have O1:w10.cell? ⟨yP,4,none⟩=some (.slice iO bY.length iP):=cz o7.out 4 rfl;have D9:=blk_frozen o7.out 0;have Ea:=blk_frozen o7.out 1;have Eb:=blk_frozen o7.out 2;have Ec:=blk_frozen o7.out 3;have O3:=blk_frozen o7.out 4)|((with_reducible refine ai (f:=112) rfl ?_);refine gL 7 Try.func112 #[.agg #[.int .u8 aI,.int .u8 aV,.int .u16 aX,.int .u32 bn,.slice iO bY.length iP]] ?_;(with_reducible refine (kJ.calls aI aV aX bn _ _ bY AiU Uw _ ?au ?ax A2.out).mono ?_);(case au=>exact Kd.aJ uu.out (bz HB));(case ax=>exact uS.out);rintro e w12 ⟨At4,rfl,ho0,hb⟩;refine ⟨_,rfl, ?_⟩;have ay:=Aside0.mk (Kd.R_lower ho0 (below_size (bz HB)));have aC:=Aside0.mk (aZ (kz o7) hb);have bg:=Aside0.mk (ag (bz HB) hb);clear o7;clear HB;have KH:=ay;have o7:=aC;have HB:=bg;clear ay aC bg;(try clear hb);(try clear hb2);(try clear hk);(try clear hi);(try clear ho0)))
  go_ret
  exact ⟨by first|rfl|(simp [ae,af]<;>rfl)|(simp [*,ae,af]<;>rfl),bz HB⟩
attribute [local go_sem] dV dW gI gJ dG dH dX dY
def oZ.f (k:Nat) (aI:Int) (aV:Int) (aX:Int) (bn:Int) (bY:List Int) (En:Int) (Eo:Int) (Ep:Int) (Es:Int) (Et:Int) (Eu:Int) (yA:Int) (yB:Int) (xI:List Int) (xJ:List Int):Option (Bool):=(sK.f k aI aV aX bn bY).bind fun XI=>(some XI)
theorem oZ.calls (k:Nat) (aI:Int) (aV:Int) (aX:Int) (bn:Int) (iO:Option Addr) (iP:Nat) (bY:List Int) (En:Int) (Eo:Int) (Ep:Int) (Es:Int) (Et:Int) (Eu:Int) (yA:Int) (yB:Int) (Hl:Option Addr) (Ho:Nat) (xI:List Int) (Hq:Option Addr) (Hr:Nat) (xJ:List Int) (r:Bool) (w:World) (nI:Kd.C (Kd.int .u8) w iO bY.length bY) (nJ:bY.length<=iP) (Ir:Kd.C (Kd.int .u8) w Hl xI.length xI) (Iu:xI.length<=Ho) (Iw:Kd.C (Kd.int .u8) w Hq xJ.length xJ) (Iy:xJ.length<=Hr) (h:oZ.f k aI aV aX bn bY En Eo Ep Es Et Eu yA yB xI xJ=some r):
  Calls Try.prog 161 #[.agg #[.int .u8 aI,.int .u8 aV,.int .u16 aX,.int .u32 bn,.slice iO bY.length iP],.agg #[.int .u8 En,.int .u8 Eo,.int .u8 Ep,.int .u16 Es,.int .u8 Et,.int .u16 Eu,.int .u32 yA,.int .u32 yB,.slice Hl xI.length Ho,.slice Hq xJ.length Hr]] w fun e w'=>e= .returned (.bool r) /\ Below w.heap.size w w':=by
 have Rw:=Try.underlying183;have hu73:=Try.underlying73;have uQ:=Try.underlying101;have uu:=Aside0.mk nI;have uS:=Aside0.mk nJ;clear nI nJ;have Afd:=Aside0.mk Ir;have Afe:=Aside0.mk Iu;clear Ir Iu;have Aff:=Aside0.mk Iw;have Afg:=Aside0.mk Iy;clear Iw Iy;have HB:=jy w;have H:((sK.f k aI aV aX bn bY).bind fun XI=>(some XI))=some r:=h;clear h;replace H:=dM H;obtain ⟨XI,CB,H⟩:=H;replace H:(some XI)=some r:=H;have A3:=Aside0.mk CB;clear CB;obtain rfl:=eF H
 go_enter Try.func161,Try.ntmps161
 go_wp2_with (first|((with_reducible refine gate_dst (N:=2) rfl ?_);refine box_event ?hg (N:=2) ?hd (cs:= #[.int .u8 aI,.int .u8 aV,.int .u16 aX,.int .u32 bn,.slice iO bY.length iP]) (t:=183) ?hr ?_;(case hd=>rfl);(case hg=>rfl);(case hr=>first|(go_simp;done)|(go_simp;rfl));intro Dq hg w4 hbox hb;have ay:=Aside0.mk (ag (bz HB) hb);have aC:=Aside0.mk (hbox);have bg:=Aside0.mk ((by rw [hg];exact (below_size (bz HB)):w.heap.size<=Dq));have dm:=Aside0.mk ((by rw [hg];exact (below_size (bz HB)):w.heap.size<=Dq));clear HB;have HB:=ay;have wK:=aC;have Aw5:=bg;have Aw6:=dm;clear ay aC bg dm;clear hb hbox hg)|((with_reducible refine gate_dst (N:=3) rfl ?_);refine box_event ?hg (N:=3) ?hd (cs:= #[.int .u8 En,.int .u8 Eo,.int .u8 Ep,.int .u16 Es,.int .u8 Et,.int .u16 Eu,.int .u32 yA,.int .u32 yB,.slice Hl xI.length Ho,.slice Hq xJ.length Hr]) (t:=73) ?hr ?_;(case hd=>rfl);(case hg=>rfl);(case hr=>first|(go_simp;done)|(go_simp;rfl));intro VW hg w5 hbox hb;have ay:=Aside0.mk (aZ (kz wK) hb);have aC:=Aside0.mk (ag (bz HB) hb);have bg:=Aside0.mk (hbox);have dm:=Aside0.mk ((by rw [hg];exact (below_size (bz HB)):w.heap.size<=VW));have Ae:=Aside0.mk ((by rw [hg];exact (below_size (bz HB)):w.heap.size<=VW));have EP:=Aside0.mk ((by rw [hg];exact Nat.ne_of_lt (qG (g:=Dq) (o:= .cells #[.int .u8 aI,.int .u8 aV,.int .u16 aX,.int .u32 bn,.slice iO bY.length iP] 183 (0,0)) (kz wK)):Dq≠VW));have Iz:=Aside0.mk ((by rw [hg];exact Nat.ne_of_gt (qG (g:=Dq) (o:= .cells #[.int .u8 aI,.int .u8 aV,.int .u16 aX,.int .u32 bn,.slice iO bY.length iP] 183 (0,0)) (kz wK)):VW≠Dq));clear wK;clear HB;have wK:=ay;have HB:=aC;have Aao:=bg;have Aw7:=dm;have Aw8:=Ae;have XJ:=EP;have XK:=Iz;clear ay aC bg dm Ae EP Iz;clear hb hbox hg;have AmA:=XJ.out;have AmB:=XK.out;have AZ:w5.cell? ⟨Dq,0,none⟩=some (.int .u8 aI):=cz wK.out 0 rfl;have Ba:w5.cell? ⟨Dq,1,none⟩=some (.int .u8 aV):=cz wK.out 1 rfl;have Bc:w5.cell? ⟨Dq,2,none⟩=some (.int .u16 aX):=cz wK.out 2 rfl;have Bd:w5.cell? ⟨Dq,3,none⟩=some (.int .u32 bn):=cz wK.out 3 rfl;have CX:w5.cell? ⟨Dq,4,none⟩=some (.slice iO bY.length iP):=cz wK.out 4 rfl;have Be:=blk_frozen wK.out 0;have Bf:=blk_frozen wK.out 1;have Bg:=blk_frozen wK.out 2;have Bh:=blk_frozen wK.out 3;have CY:=blk_frozen wK.out 4)|((with_reducible refine ai (f:=162) rfl ?_);refine gL 7 Try.func162 #[.agg #[.int .u8 aI,.int .u8 aV,.int .u16 aX,.int .u32 bn,.slice iO bY.length iP]] ?_;(with_reducible refine (sK.calls k aI aV aX bn _ _ bY XI _ ?au ?ax A3.out).mono ?_);(case au=>exact Kd.aJ uu.out (bz HB));(case ax=>exact uS.out);rintro e w8 ⟨rfl,hb⟩;refine ⟨_,rfl, ?_⟩;have ay:=Aside0.mk (aZ (kz wK) hb);have aC:=Aside0.mk (aZ (kz Aao) hb);have bg:=Aside0.mk (ag (bz HB) hb);clear wK;clear Aao;clear HB;have wK:=ay;have Aao:=aC;have HB:=bg;clear ay aC bg;(try clear hb);(try clear hb2);(try clear hk);(try clear hi)))
 go_ret
 exact ⟨by first|rfl|(simp [ae,af]<;>rfl)|(simp [*,ae,af]<;>rfl),bz HB⟩
attribute [local go_sem] dV dW gI gJ dG dH dX dY
def ru.f (aI:Int) (aV:Int) (aX:Int) (iZ:List Int):Option (Int):=some 17
theorem ru.calls (aI:Int) (aV:Int) (aX:Int) (wC:Option Addr) (wE:Nat) (iZ:List Int) (r:Int) (w:World) (C9:Kd.C (Kd.int .u8) w wC iZ.length iZ) (Dc:iZ.length<=wE) (h:ru.f aI aV aX iZ=some r):
  Calls Try.prog 155 #[.agg #[.int .u16 aI,.int .u16 aV,.int .u16 aX,.slice wC iZ.length wE]] w fun e w'=>e= .returned (.int .u8 r) /\ Below w.heap.size w w':=by
 have QX:=Try.underlying179;have Nv:=Aside0.mk C9;have VN:=Aside0.mk Dc;clear C9 Dc;have HB:=jy w;have H:(some 17)=some r:=h;clear h;obtain rfl:=eF H
 go_enter Try.func155,Try.ntmps155
 go_wp2_with (first|((with_reducible refine gate_dst (N:=1) rfl ?_);refine box_event ?hg (N:=1) ?hd (cs:= #[.int .u16 aI,.int .u16 aV,.int .u16 aX,.slice wC iZ.length wE]) (t:=179) ?hr ?_;(case hd=>rfl);(case hg=>rfl);(case hr=>first|(go_simp;done)|(go_simp;rfl));intro Afs hg w2 hbox hb;have ay:=Aside0.mk (ag (bz HB) hb);have aC:=Aside0.mk (hbox);have bg:=Aside0.mk ((by rw [hg];exact (below_size (bz HB)):w.heap.size<=Afs));have dm:=Aside0.mk ((by rw [hg];exact (below_size (bz HB)):w.heap.size<=Afs));clear HB;have HB:=ay;have Aw9:=aC;have Axa:=bg;have Axb:=dm;clear ay aC bg dm;clear hb hbox hg))
 go_ret
 exact ⟨by first|rfl|(simp [ae,af]<;>rfl)|(simp [*,ae,af]<;>rfl),bz HB⟩
attribute [local go_sem] dV dW gI gJ dG dH dX dY
def rP.f (aI:Int) (aV:Int) (aX:Int) (bn:Int) (eP:Int) (eX:Int) (fC:Int) (fD:Int) (bD:List Int) (dw:List Int):Option (Int):=some 6
theorem rP.calls (aI:Int) (aV:Int) (aX:Int) (bn:Int) (eP:Int) (eX:Int) (fC:Int) (fD:Int) (lX:Option Addr) (lY:Nat) (bD:List Int) (lZ:Option Addr) (l7:Nat) (dw:List Int) (r:Int) (w:World) (zD:Kd.C (Kd.int .u8) w lX bD.length bD) (zF:bD.length<=lY) (zG:Kd.C (Kd.int .u8) w lZ dw.length dw) (zH:dw.length<=l7) (h:rP.f aI aV aX bn eP eX fC fD bD dw=some r):
  Calls Try.prog 157 #[.agg #[.int .u16 aI,.int .u16 aV,.int .u32 aX,.int .u32 bn,.int .u8 eP,.int .u16 eX,.int .u16 fC,.int .u16 fD,.slice lX bD.length lY,.slice lZ dw.length l7]] w fun e w'=>e= .returned (.int .u8 r) /\ Below w.heap.size w w':=by
 have Rl:=Try.underlying181;have IA:=Aside0.mk zD;have Rn:=Aside0.mk zF;clear zD zF;have IB:=Aside0.mk zG;have Ro:=Aside0.mk zH;clear zG zH;have HB:=jy w;have H:(some 6)=some r:=h;clear h;obtain rfl:=eF H
 go_enter Try.func157,Try.ntmps157
 go_wp2_with (first|((with_reducible refine gate_dst (N:=1) rfl ?_);refine box_event ?hg (N:=1) ?hd (cs:= #[.int .u16 aI,.int .u16 aV,.int .u32 aX,.int .u32 bn,.int .u8 eP,.int .u16 eX,.int .u16 fC,.int .u16 fD,.slice lX bD.length lY,.slice lZ dw.length l7]) (t:=181) ?hr ?_;(case hd=>rfl);(case hg=>rfl);(case hr=>first|(go_simp;done)|(go_simp;rfl));intro Aft hg w2 hbox hb;have ay:=Aside0.mk (ag (bz HB) hb);have aC:=Aside0.mk (hbox);have bg:=Aside0.mk ((by rw [hg];exact (below_size (bz HB)):w.heap.size<=Aft));have dm:=Aside0.mk ((by rw [hg];exact (below_size (bz HB)):w.heap.size<=Aft));clear HB;have HB:=ay;have Axc:=aC;have Axd:=bg;have Axe:=dm;clear ay aC bg dm;clear hb hbox hg))
 go_ret
 exact ⟨by first|rfl|(simp [ae,af]<;>rfl)|(simp [*,ae,af]<;>rfl),bz HB⟩
attribute [local go_sem] dV dW gI gJ dG dH dX dY
def o5.f (aI:Int) (aV:Int) (aX:Int) (bn:Int) (bY:List Int):Option (Int):=some 1
theorem o5.calls (aI:Int) (aV:Int) (aX:Int) (bn:Int) (iO:Option Addr) (iP:Nat) (bY:List Int) (r:Int) (w:World) (nI:Kd.C (Kd.int .u8) w iO bY.length bY) (nJ:bY.length<=iP) (h:o5.f aI aV aX bn bY=some r):
  Calls Try.prog 160 #[.agg #[.int .u8 aI,.int .u8 aV,.int .u16 aX,.int .u32 bn,.slice iO bY.length iP]] w fun e w'=>e= .returned (.int .u8 r) /\ Below w.heap.size w w':=by
 have Rw:=Try.underlying183;have uu:=Aside0.mk nI;have uS:=Aside0.mk nJ;clear nI nJ;have HB:=jy w;have H:(some 1)=some r:=h;clear h;obtain rfl:=eF H
 go_enter Try.func160,Try.ntmps160
 go_wp2_with (first|((with_reducible refine gate_dst (N:=1) rfl ?_);refine box_event ?hg (N:=1) ?hd (cs:= #[.int .u8 aI,.int .u8 aV,.int .u16 aX,.int .u32 bn,.slice iO bY.length iP]) (t:=183) ?hr ?_;(case hd=>rfl);(case hg=>rfl);(case hr=>first|(go_simp;done)|(go_simp;rfl));intro Afu hg w2 hbox hb;have ay:=Aside0.mk (ag (bz HB) hb);have aC:=Aside0.mk (hbox);have bg:=Aside0.mk ((by rw [hg];exact (below_size (bz HB)):w.heap.size<=Afu));have dm:=Aside0.mk ((by rw [hg];exact (below_size (bz HB)):w.heap.size<=Afu));clear HB;have HB:=ay;have Axf:=aC;have Axg:=bg;have Axh:=dm;clear ay aC bg dm;clear hb hbox hg))
 go_ret
 exact ⟨by first|rfl|(simp [ae,af]<;>rfl)|(simp [*,ae,af]<;>rfl),bz HB⟩
attribute [local go_sem] dV dW gI gJ dG dH dX dY
mutual
def bT.j0:Nat ->List Int ->Int ->Bool ->Option (Int×Bool)
 |0,_,_,_=>none
 |k+1,x0,x4,x29=>if x29=true then (some (0,false)) else (if 9<(x0.length:Int) then (if (rd x0 9)=17 then (bT.j1 k x0 x4 (rd x0 9) ((rd x0 9)==17)) else (bT.j1 k x0 x4 (rd x0 9) ((rd x0 9)==6))) else (none))
def bT.j1:Nat ->List Int ->Int ->Int ->Bool ->Option (Int×Bool)
 |0,_,_,_,_=>none
 |k+1,x0,x4,x32,x33=>if x33=true then (some (x4,true)) else (if x32=1 then (if 0<=x4 then (if x4<=(x0.length:Int) then ((jh.f (x0.drop (x4:Int).toNat)).bind fun Ux=>(some (x4,Ux))) else (none)) else (none)) else (some (0,false)))
end
def bT.f (k:Nat) (l0:List Int):Option (Int×Bool):=if (l0.length:Int)<20 then (some (0,false)) else (if 0<(l0.length:Int) then (if ((rd l0 0) / 16)=4 then (if (wrap64 (4*(wrap64 (Go.bits .and .u8 (rd l0 0) 15))))<20 then (bT.j0 k l0 (wrap64 (4*(wrap64 (Go.bits .and .u8 (rd l0 0) 15)))) true) else (bT.j0 k l0 (wrap64 (4*(wrap64 (Go.bits .and .u8 (rd l0 0) 15)))) (decide ((l0.length:Int)<(wrap64 ((wrap64 (4*(wrap64 (Go.bits .and .u8 (rd l0 0) 15))))+8)))))) else (bT.j0 k l0 (wrap64 (4*(wrap64 (Go.bits .and .u8 (rd l0 0) 15)))) true)) else (none))
theorem bT.calls (k:Nat) (A0:Option Addr) (c0:Nat) (l0:List Int) (r1:Int) (r2:Bool) (w:World) (hr0:Kd.C (Kd.int .u8) w A0 l0.length l0) (hc0:l0.length<=c0) (h:bT.f k l0=some (r1,r2)):
  Calls Try.prog 86 #[.slice A0 l0.length c0] w fun e w'=>e= .returned (.tuple #[.int .i64 r1,.bool r2]) /\ Below w.heap.size w w':=by
 have HR0:=Aside0.mk hr0;have mg:=Aside0.mk hc0;clear hr0 hc0;have HB:=jy w;have H:(if (l0.length:Int)<20 then (some (0,false)) else (if 0<(l0.length:Int) then (if ((rd l0 0) / 16)=4 then (if (wrap64 (4*(wrap64 (Go.bits .and .u8 (rd l0 0) 15))))<20 then (bT.j0 k l0 (wrap64 (4*(wrap64 (Go.bits .and .u8 (rd l0 0) 15)))) true) else (bT.j0 k l0 (wrap64 (4*(wrap64 (Go.bits .and .u8 (rd l0 0) 15)))) (decide ((l0.length:Int)<(wrap64 ((wrap64 (4*(wrap64 (Go.bits .and .u8 (rd l0 0) 15))))+8)))))) else (bT.j0 k l0 (wrap64 (4*(wrap64 (Go.bits .and .u8 (rd l0 0) 15)))) true)) else (none)))=some (r1,r2):=h;clear h
 by_cases c2:(l0.length:Int)<20
 ·rw [ah c2] at H
  have nV:decide ((l0.length:Int)<20)=true:=bJ c2;have qQ:decide (l0.length<20)=true:=bJ (by omega);clear c2;simp only [Option.some.injEq,Prod.mk.injEq] at H
  obtain ⟨rfl,rfl⟩:=H
  go_enter Try.func86,Try.ntmps86
  go_wp2
  go_ret2
  exact ⟨by first|rfl|(simp [ae,af]<;>rfl)|(simp [*,ae,af]<;>rfl),bz HB⟩
 ·rw [aj c2] at H
  have nV:decide ((l0.length:Int)<20)=false:=jC c2;have qQ:decide (l0.length<20)=false:=jC (by omega);clear c2
  by_cases c3:0<(l0.length:Int)
  ·rw [ah c3] at H
   have tY:decide (0<(l0.length:Int))=true:=bJ c3;have vI:decide (0<l0.length)=true:=bJ (by omega);clear c3;have XL:=Aside0.mk H;clear H;have Aap:0<=(0:Int):=(by omega)
   have Aaq:0<(l0.length:Int):=je;obtain ⟨Rx,At6,Jv⟩:=Kd.dU HR0.out 0 Aap Aaq
   cases At6
   have Axi:(0<l0.length)=True:=eq_true (by omega)
   (try rw [show ((0:Int)).toNat=0 from rfl] at Jv)
   (try rw [Addr.add_zero'] at Jv)
   replace Aap:=eq_true Aap;replace Aaq:=eq_true Aaq
   go_enter Try.func86,Try.ntmps86
   go_upto_region 4 with (fail)
   go_cut [29] (fun v29 wc=>∃ (kq:Nat) (VX:Bool),v29= .bool VX /\ Aside0 (bT.j0 kq l0 (wrap64 (4*(wrap64 (Go.bits .and .u8 (rd l0 0) 15)))) VX=some (r1,r2)) /\ Aside0 (kq<=k) /\ Aside0 (Below w.heap.size w wc))
   case first=>
    have H:=XL.out;clear XL
    by_cases c5:((rd l0 0) / 16)=4
    ·rw [ah c5] at H
     have qR:(((rd l0 0) / 16)==4)=true:=jf c5;have wO:(((rd l0 0) / 16) !=4)=false:=oM c5;clear c5
     (first|rw [qR]|(simp only [i64_w,i32_w];rw [qR])|skip)
     by_cases c6:(wrap64 (4*(wrap64 (Go.bits .and .u8 (rd l0 0) 15))))<20
     ·rw [ah c6] at H
      have yY:decide ((wrap64 (4*(wrap64 (Go.bits .and .u8 (rd l0 0) 15))))<20)=true:=bJ c6;clear c6;have H':=Aside0.mk H;clear H;have KI:0<=(0:Int):=(by omega)
      have KJ:0<(l0.length:Int):=je;obtain ⟨Ry,Aar,qh⟩:=Kd.dU HR0.out 0 KI KJ;obtain rfl:Rx=Ry:=(by injection Aar)
      have Afv:(0<l0.length)=True:=eq_true (by omega)
      (try rw [show ((0:Int)).toNat=0 from rfl] at qh)
      (try rw [Addr.add_zero'] at qh)
      replace qh:=(HB.out.cell (dS w _ qh)).trans qh;replace KI:=eq_true KI;replace KJ:=eq_true KJ
      go_wp2
      go_meet
      case rel=>exact ⟨_,(true),(by first|rfl|(simp;done)|(simp [*];done)),H',⟨by first|omega|exact Nat.le_refl _⟩,⟨bz HB⟩⟩
     ·rw [aj c6] at H
      have yY:decide ((wrap64 (4*(wrap64 (Go.bits .and .u8 (rd l0 0) 15))))<20)=false:=jC c6;clear c6;have H':=Aside0.mk H;clear H;have KI:0<=(0:Int):=(by omega)
      have KJ:0<(l0.length:Int):=je;obtain ⟨Ry,Aar,qh⟩:=Kd.dU HR0.out 0 KI KJ;obtain rfl:Rx=Ry:=(by injection Aar)
      have Afv:(0<l0.length)=True:=eq_true (by omega)
      (try rw [show ((0:Int)).toNat=0 from rfl] at qh)
      (try rw [Addr.add_zero'] at qh)
      replace qh:=(HB.out.cell (dS w _ qh)).trans qh;replace KI:=eq_true KI;replace KJ:=eq_true KJ
      go_wp2
      go_meet
      case rel=>exact ⟨_,(decide ((l0.length:Int)<(wrap64 ((wrap64 (4*(wrap64 (Go.bits .and .u8 (rd l0 0) 15))))+8)))),(by first|rfl|(simp;done)|(simp [*];done)),H',⟨by first|omega|exact Nat.le_refl _⟩,⟨bz HB⟩⟩
    ·rw [aj c5] at H
     have qR:(((rd l0 0) / 16)==4)=false:=iM c5;have wO:(((rd l0 0) / 16) !=4)=true:=pq c5
     (first|rw [qR]|(simp only [i64_w,i32_w];rw [qR])|skip)
     have H':=Aside0.mk H;clear H;have KI:0<=(0:Int):=(by omega)
     have KJ:0<(l0.length:Int):=je;obtain ⟨Ry,Aar,qh⟩:=Kd.dU HR0.out 0 KI KJ;obtain rfl:Rx=Ry:=(by injection Aar)
     have Afv:(0<l0.length)=True:=eq_true (by omega)
     (try rw [show ((0:Int)).toNat=0 from rfl] at qh)
     (try rw [Addr.add_zero'] at qh)
     replace qh:=(HB.out.cell (dS w _ qh)).trans qh;replace KI:=eq_true KI;replace KJ:=eq_true KJ
     go_wp2
     go_meet
     case rel=>exact ⟨_,(true),(by first|rfl|(simp;done)|(simp [*];done)),H',⟨by first|omega|exact Nat.le_refl _⟩,⟨bz HB⟩⟩
   case rest=>
    clear XL
    try clear c2
    try clear nV
    try clear qQ
    try clear c3
    try clear tY
    try clear vI
    try clear Jv
    try clear Aap
    try clear Aaq
    obtain ⟨kq,VX,rfl,HA,HJ3,HB⟩:=hcut
    cases kq with
    |zero=>exact absurd HA.out (by simp [bT.j0])
    |succ kj3=>
     have H:=HA.out;clear HA;simp only [bT.j0] at H
     by_cases c7:VX=true
     ·subst c7
      have H1:(some (0,false))=some (r1,r2):=by rw [ah rfl] at H;exact H
      clear H;have H:=H1;clear H1;simp only [Option.some.injEq,Prod.mk.injEq] at H
      obtain ⟨rfl,rfl⟩:=H
      go_wp2
      go_ret2
      exact ⟨by first|rfl|(simp [ae,af]<;>rfl)|(simp [*,ae,af]<;>rfl),bz HB⟩
     ·replace c7:=FT c7
      subst c7;have H1:(if 9<(l0.length:Int) then (if (rd l0 9)=17 then (bT.j1 kj3 l0 (wrap64 (4*(wrap64 (Go.bits .and .u8 (rd l0 0) 15)))) (rd l0 9) ((rd l0 9)==17)) else (bT.j1 kj3 l0 (wrap64 (4*(wrap64 (Go.bits .and .u8 (rd l0 0) 15)))) (rd l0 9) ((rd l0 9)==6))) else (none))=some (r1,r2):=by rw [aj (show ¬ (false=true) by decide)] at H;exact H
      clear H;have H:=H1;clear H1
      by_cases c8:9<(l0.length:Int)
      ·rw [ah c8] at H
       have uf:decide (9<(l0.length:Int))=true:=bJ c8;have JW:decide (9<l0.length)=true:=bJ (by omega);clear c8;have HC9:=Aside0.mk H;clear H;have Ac7:0<=(9:Int):=(by omega)
       have Ac8:9<(l0.length:Int):=je;obtain ⟨AmZ,At9,Ed⟩:=Kd.dU HR0.out 9 Ac7 Ac8;obtain rfl:Rx=AmZ:=(by injection At9)
       (try simp only [show (9:Int).toNat=9 from rfl,Nat.reduceMul,Nat.reduceEqDiff,Go.Addr.add,↓reduceIte] at Ed)
       have Axk:(9<l0.length)=True:=eq_true (by omega)
       (try rw [show ((9:Int)).toNat=9 from rfl] at Ed)
       replace Ed:=(HB.out.cell (dS w _ Ed)).trans Ed;replace Ac7:=eq_true Ac7;replace Ac8:=eq_true Ac8
       go_upto_if 33 with (fail)
       go_cut [33] (fun v33 wc=>∃ (kq:Nat) (VY:Bool),v33= .bool VY /\ Aside0 (bT.j1 kq l0 (wrap64 (4*(wrap64 (Go.bits .and .u8 (rd l0 0) 15)))) (rd l0 9) VY=some (r1,r2)) /\ Aside0 (kq<=kj3) /\ Aside0 (Below w.heap.size w wc))
       case first=>
        have H:=HC9.out;clear HC9
        by_cases c10:(rd l0 9)=17
        ·rw [ah c10] at H
         have Aa:((rd l0 9)==17)=true:=jf c10;have VF:((rd l0 9) !=17)=false:=oM c10;clear c10
         (first|rw [Aa]|(simp only [i64_w,i32_w];rw [Aa])|skip)
         have H':=Aside0.mk H;clear H
         go_wp2
         go_meet
         case rel=>exact ⟨_,(((rd l0 9)==17)),(by first|rfl|(simp;done)|(simp [*];done)),H',⟨by have:=HJ3.out;first|omega|exact Nat.le_refl _⟩,⟨bz HB⟩⟩
        ·rw [aj c10] at H
         have Aa:((rd l0 9)==17)=false:=iM c10;have VF:((rd l0 9) !=17)=true:=pq c10
         (first|rw [Aa]|(simp only [i64_w,i32_w];rw [Aa])|skip)
         have H':=Aside0.mk H;clear H
         go_wp2
         go_meet
         case rel=>exact ⟨_,(((rd l0 9)==6)),(by first|rfl|(simp;done)|(simp [*];done)),H',⟨by have:=HJ3.out;first|omega|exact Nat.le_refl _⟩,⟨bz HB⟩⟩
       case rest=>
        clear HC9
        try clear c2
        try clear nV
        try clear qQ
        try clear c3
        try clear tY
        try clear vI
        try clear c7
        try clear c8
        try clear uf
        try clear JW
        try clear Jv
        try clear Ed
        try clear Aap
        try clear Ac7
        try clear Aaq
        try clear Ac8
        obtain ⟨kq,VY,rfl,HA,HJ8,HB⟩:=hcut
        cases kq with
        |zero=>exact absurd HA.out (by simp [bT.j1])
        |succ kj8=>
         have H:=HA.out;clear HA;simp only [bT.j1] at H
         by_cases c11:VY=true
         ·subst c11
          have H1:(some ((wrap64 (4*(wrap64 (Go.bits .and .u8 (rd l0 0) 15)))),true))=some (r1,r2):=by rw [ah rfl] at H;exact H
          clear H;have H:=H1;clear H1;simp only [Option.some.injEq,Prod.mk.injEq] at H
          obtain ⟨rfl,rfl⟩:=H
          go_wp2
          go_ret2
          exact ⟨by first|rfl|(simp [ae,af]<;>rfl)|(simp [*,ae,af]<;>rfl),bz HB⟩
         ·replace c11:=FT c11
          subst c11;have H1:(if (rd l0 9)=1 then (if 0<=(wrap64 (4*(wrap64 (Go.bits .and .u8 (rd l0 0) 15)))) then (if (wrap64 (4*(wrap64 (Go.bits .and .u8 (rd l0 0) 15))))<=(l0.length:Int) then ((jh.f (l0.drop ((wrap64 (4*(wrap64 (Go.bits .and .u8 (rd l0 0) 15)))):Int).toNat)).bind fun Ux=>(some ((wrap64 (4*(wrap64 (Go.bits .and .u8 (rd l0 0) 15)))),Ux))) else (none)) else (none)) else (some (0,false)))=some (r1,r2):=by rw [aj (show ¬ (false=true) by decide)] at H;exact H
          clear H;have H:=H1;clear H1
          by_cases c12:(rd l0 9)=1
          ·rw [ah c12] at H
           have Nr:((rd l0 9)==1)=true:=jf c12;have VH:((rd l0 9) !=1)=false:=oM c12;clear c12;obtain ⟨vG,zJ⟩:∃ j_:Int,(wrap64 (4*(wrap64 (Go.bits .and .u8 (rd l0 0) 15))))=j_:=⟨_,rfl⟩
           replace H:(if 0<=(vG) then (if (vG)<=(l0.length:Int) then ((jh.f (l0.drop ((vG):Int).toNat)).bind fun Ux=>(some ((vG),Ux))) else (none)) else (none))=some (r1,r2):=by first|(rw [zJ] at H;exact H)|(simp only [zJ] at H|-;exact H)
           have AiW:(IntKind.i64.wrap (4*(wrap64 (Go.bits .and .u8 (rd l0 0) 15))))=vG:=(i64_w _).trans zJ
           by_cases c14:0<=(vG)
           ·rw [ah c14] at H
            have KL:=eq_true c14;have Aas:decide (0<=(vG))=true:=bJ c14;clear c14
            by_cases c15:(vG)<=(l0.length:Int)
            ·rw [ah c15] at H
             have CS:=eq_true c15;have Nq:decide ((vG)<=(l0.length:Int))=true:=bJ c15;clear c15;replace H:=dM H;obtain ⟨Ux,CU,H⟩:=H
             (try dsimp -simprocs only at H)
             have YC:=Aside0.mk CU;clear CU;simp only [Option.some.injEq,Prod.mk.injEq] at H
             obtain ⟨rfl,rfl⟩:=H;obtain ⟨Ata,QE,_,QF,_⟩:=info_parts info5;obtain ⟨YD,AhD,Zl,Zm⟩:=ja (P:=Try.prog) (Value.int .u8) 0 23 5 .i64 Try.underlying23 QE QF (some Rx) c0 l0 (vG) je je mg.out;have Am0:=Aside0.mk (Kd.dR (h1:=fun _=>rfl) (Zl _ (Kd.dO HR0.out)));have Am1:=Aside0.mk Zm;clear Zl Zm QE QF
             go_wp2_with (first|((with_reducible refine ai (f:=114) rfl ?_);refine zQ (some 43) rfl rfl Try.func114 (by kernel_rfl) rfl #[.slice YD (l0.drop ((vG):Int).toNat).length (c0 - (vG).toNat)] rfl (by (try simp only [List.map_toArray,List.map_cons,List.map_nil]);first|done|(rw [show (l0.drop ((vG):Int).toNat).length=(l0.length - (vG).toNat) from List.length_drop]<;>rfl)|(simp only [zJ];rfl)|rfl|(simp only [List.length_drop,List.length_take];rfl)|(go_simp;done)|(simp [Act.eval,IntKind.signed];done)|(simp [Act.eval,IntKind.signed];rfl)) ?_;(with_reducible refine (jh.calls _ _ (l0.drop ((vG):Int).toNat) Ux _ ?au ?ax YC.out).mono ?_);(case au=>exact Kd.aJ Am0.out (bz HB));(case ax=>exact Am1.out);rintro e w18 ⟨rfl,hb⟩;refine ⟨_,rfl, ?_⟩;have ay:=Aside0.mk (ag (bz HB) hb);clear HB;have HB:=ay;clear ay;(try clear hb);(try clear hb2);(try clear hk);(try clear hi)))
             go_ret2
             exact ⟨by first|rfl|(simp [ae,af]<;>rfl)|(simp only [<- zJ];first|rfl|(simp [ae,af]<;>rfl))|(simp [*,ae,af]<;>rfl),bz HB⟩
            ·rw [aj c15] at H
             cases H
           ·rw [aj c14] at H
            cases H
          ·rw [aj c12] at H
           have Nr:((rd l0 9)==1)=false:=iM c12;have VH:((rd l0 9) !=1)=true:=pq c12;simp only [Option.some.injEq,Prod.mk.injEq] at H
           obtain ⟨rfl,rfl⟩:=H
           go_wp2
           go_ret2
           exact ⟨by first|rfl|(simp [ae,af]<;>rfl)|(simp [*,ae,af]<;>rfl),bz HB⟩
      ·rw [aj c8] at H
       cases H
  ·rw [aj c3] at H
   cases H
def dK.f (l0:List Int):Option (Int):=if 0<(l0.length:Int) then (if 1<(l0.length:Int) then (some (Go.bits .or .u16 (IntKind.u16.wrap ((IntKind.u16.wrap (rd l0 0))*256)) (IntKind.u16.wrap (rd l0 1)))) else (none)) else (none)
theorem dK.calls (A0:Option Addr) (c0:Nat) (l0:List Int) (r:Int) (w:World) (hr0:Kd.C (Kd.int .u8) w A0 l0.length l0) (hc0:l0.length<=c0) (h:dK.f l0=some r):
  Calls Try.prog 87 #[.slice A0 l0.length c0] w fun e w'=>e= .returned (.int .u16 r) /\ bf w w':=by
 have HR0:=Aside0.mk hr0;have mg:=Aside0.mk hc0;clear hr0 hc0;have H:(if 0<(l0.length:Int) then (if 1<(l0.length:Int) then (some (Go.bits .or .u16 (IntKind.u16.wrap ((IntKind.u16.wrap (rd l0 0))*256)) (IntKind.u16.wrap (rd l0 1)))) else (none)) else (none))=some r:=h;clear h
 by_cases c2:0<(l0.length:Int)
 ·rw [ah c2] at H
  have nV:decide (0<(l0.length:Int))=true:=bJ c2;have qQ:decide (0<l0.length)=true:=bJ (by omega);clear c2
  by_cases c3:1<(l0.length:Int)
  ·rw [ah c3] at H
   have tY:decide (1<(l0.length:Int))=true:=bJ c3;have vI:decide (1<l0.length)=true:=bJ (by omega);clear c3;obtain rfl:=eF H;have AiX:0<=(0:Int):=(by omega)
   have AiY:0<(l0.length:Int):=je;obtain ⟨Am2,Auc,VZ⟩:=Kd.dU HR0.out 0 AiX AiY
   cases Auc
   have Axl:(0<l0.length)=True:=eq_true (by omega)
   (try rw [show ((0:Int)).toNat=0 from rfl] at VZ)
   (try rw [Addr.add_zero'] at VZ)
   replace AiX:=eq_true AiX;replace AiY:=eq_true AiY;have AiZ:0<=(1:Int):=(by omega)
   have Ai0:1<(l0.length:Int):=je;obtain ⟨Am3,Aud,V3⟩:=Kd.dU HR0.out 1 AiZ Ai0;obtain rfl:Am2=Am3:=(by injection Aud)
   (try simp only [show (1:Int).toNat=1 from rfl,Nat.reduceMul,Nat.reduceEqDiff,Go.Addr.add,↓reduceIte] at V3)
   have Axm:(1<l0.length)=True:=eq_true (by omega)
   (try rw [show ((1:Int)).toNat=1 from rfl] at V3)
   replace AiZ:=eq_true AiZ;replace Ai0:=eq_true Ai0
   go_enter Try.func87,Try.ntmps87
   go_wp2
   repeat (go_quiet (fail);try go_wp2)
   go_ret
   exact ⟨by first|rfl|(simp;done)|(simp [*];done),by repeat (first|exact bf.refl _|apply bf.step)⟩
  ·rw [aj c3] at H
   cases H
 ·rw [aj c2] at H
  cases H
def eU.f (l0:List Int):Option (Int):=(dK.f l0).bind fun Uy=>(if 2<=(l0.length:Int) then ((dK.f (l0.drop 2)).bind fun Uz=>(some (Go.bits .or .u32 ((((Uy) % 4294967296)*65536) % 4294967296) ((Uz) % 4294967296)))) else (none))
theorem eU.calls (A0:Option Addr) (c0:Nat) (l0:List Int) (r:Int) (w:World) (hr0:Kd.C (Kd.int .u8) w A0 l0.length l0) (hc0:l0.length<=c0) (h:eU.f l0=some r):
  Calls Try.prog 124 #[.slice A0 l0.length c0] w fun e w'=>e= .returned (.int .u32 r) /\ bf w w':=by
 have HR0:=Aside0.mk hr0;have mg:=Aside0.mk hc0;clear hr0 hc0;have H:((dK.f l0).bind fun Uy=>(if 2<=(l0.length:Int) then ((dK.f (l0.drop 2)).bind fun Uz=>(some (Go.bits .or .u32 ((((Uy) % 4294967296)*65536) % 4294967296) ((Uz) % 4294967296)))) else (none)))=some r:=h;clear h;replace H:=dM H;obtain ⟨Uy,Aw,H⟩:=H
 (try dsimp -simprocs only at H)
 have A2:=Aside0.mk Aw;clear Aw
 by_cases c3:2<=(l0.length:Int)
 ·rw [ah c3] at H
  have tY:=eq_true c3;have vI:decide (2<=(l0.length:Int))=true:=bJ c3;clear c3;replace H:=dM H;obtain ⟨Uz,yz,H⟩:=H
  (try dsimp -simprocs only at H)
  have A4:=Aside0.mk yz;clear yz;obtain rfl:=eF H
  go_enter Try.func124,Try.ntmps124
  go_wp2_with (first|(go_at_call 87;(with_reducible refine (dK.calls _ _ l0 Uy _ ?au ?ax A2.out).mono ?_);(case au=>repeat (first|exact HR0.out|(with_reducible refine Kd.iL ?_ _)|(with_reducible refine Kd.iD ?_ _)|(with_reducible refine Kd.jE ?_)));(case ax=>exact mg.out);rintro e w' ⟨rfl,⟨nd,rfl⟩⟩;(try first|exact ⟨rfl,_,World.drewN_drewN _ _ _⟩|exact ⟨rfl,_,Eq.trans (World.drewN_drewN _ _ _) (congrArg (World.drewN _) (Nat.add_assoc _ _ _))⟩);obtain ⟨i05,Rz,_,hsz5,_⟩:=info_parts info5;obtain ⟨A5,Afw,hA5,hC5⟩:=ja (P:=Try.prog) (Value.int .u8) 0 23 5 .i64 Try.underlying23 Rz hsz5 A0 c0 l0 2 (by omega) je mg.out;have RD:=Aside0.mk (Kd.dR (h1:=fun _=>rfl) (hA5 _ (Kd.dO HR0.out)));have RF:=Aside0.mk hC5;clear hA5 hC5 Rz hsz5)|(go_at_call 87;refine zS (args':= #[.slice A5 (l0.drop 2).length (c0 - 2)]) (by first|(rw [show (l0.drop 2).length=(l0.length - 2) from List.length_drop];done)|rfl|(simp;done)) ?_;(with_reducible refine (dK.calls _ _ (l0.drop 2) Uz _ ?au ?ax A4.out).mono ?_);(case au=>repeat (first|exact RD.out|(with_reducible refine Kd.iL ?_ _)|(with_reducible refine Kd.iD ?_ _)|(with_reducible refine Kd.jE ?_)));(case ax=>exact RF.out);rintro e w' ⟨rfl,⟨nd,rfl⟩⟩;(try first|exact ⟨rfl,_,World.drewN_drewN _ _ _⟩|exact ⟨rfl,_,Eq.trans (World.drewN_drewN _ _ _) (congrArg (World.drewN _) (Nat.add_assoc _ _ _))⟩)))
  repeat (go_quiet (first|(go_at_call 87;(with_reducible refine (dK.calls _ _ l0 Uy _ ?au ?ax A2.out).mono ?_);(case au=>repeat (first|exact HR0.out|(with_reducible refine Kd.iL ?_ _)|(with_reducible refine Kd.iD ?_ _)|(with_reducible refine Kd.jE ?_)));(case ax=>exact mg.out);rintro e w' ⟨rfl,⟨nd,rfl⟩⟩;(try first|exact ⟨rfl,_,World.drewN_drewN _ _ _⟩|exact ⟨rfl,_,Eq.trans (World.drewN_drewN _ _ _) (congrArg (World.drewN _) (Nat.add_assoc _ _ _))⟩);obtain ⟨i05,Rz,_,hsz5,_⟩:=info_parts info5;obtain ⟨A5,Afw,hA5,hC5⟩:=ja (P:=Try.prog) (Value.int .u8) 0 23 5 .i64 Try.underlying23 Rz hsz5 A0 c0 l0 2 (by omega) je mg.out;have RD:=Aside0.mk (Kd.dR (h1:=fun _=>rfl) (hA5 _ (Kd.dO HR0.out)));have RF:=Aside0.mk hC5;clear hA5 hC5 Rz hsz5)|(go_at_call 87;refine zS (args':= #[.slice A5 (l0.drop 2).length (c0 - 2)]) (by first|(rw [show (l0.drop 2).length=(l0.length - 2) from List.length_drop];done)|rfl|(simp;done)) ?_;(with_reducible refine (dK.calls _ _ (l0.drop 2) Uz _ ?au ?ax A4.out).mono ?_);(case au=>repeat (first|exact RD.out|(with_reducible refine Kd.iL ?_ _)|(with_reducible refine Kd.iD ?_ _)|(with_reducible refine Kd.jE ?_)));(case ax=>exact RF.out);rintro e w' ⟨rfl,⟨nd,rfl⟩⟩;(try first|exact ⟨rfl,_,World.drewN_drewN _ _ _⟩|exact ⟨rfl,_,Eq.trans (World.drewN_drewN _ _ _) (congrArg (World.drewN _) (Nat.add_assoc _ _ _))⟩)));try go_wp2_with (first|(go_at_call 87;(with_reducible refine (dK.calls _ _ l0 Uy _ ?au ?ax A2.out).mono ?_);(case au=>repeat (first|exact HR0.out|(with_reducible refine Kd.iL ?_ _)|(with_reducible refine Kd.iD ?_ _)|(with_reducible refine Kd.jE ?_)));(case ax=>exact mg.out);rintro e w' ⟨rfl,⟨nd,rfl⟩⟩;(try first|exact ⟨rfl,_,World.drewN_drewN _ _ _⟩|exact ⟨rfl,_,Eq.trans (World.drewN_drewN _ _ _) (congrArg (World.drewN _) (Nat.add_assoc _ _ _))⟩);obtain ⟨i05,Rz,_,hsz5,_⟩:=info_parts info5;obtain ⟨A5,Afw,hA5,hC5⟩:=ja (P:=Try.prog) (Value.int .u8) 0 23 5 .i64 Try.underlying23 Rz hsz5 A0 c0 l0 2 (by omega) je mg.out;have RD:=Aside0.mk (Kd.dR (h1:=fun _=>rfl) (hA5 _ (Kd.dO HR0.out)));have RF:=Aside0.mk hC5;clear hA5 hC5 Rz hsz5)|(go_at_call 87;refine zS (args':= #[.slice A5 (l0.drop 2).length (c0 - 2)]) (by first|(rw [show (l0.drop 2).length=(l0.length - 2) from List.length_drop];done)|rfl|(simp;done)) ?_;(with_reducible refine (dK.calls _ _ (l0.drop 2) Uz _ ?au ?ax A4.out).mono ?_);(case au=>repeat (first|exact RD.out|(with_reducible refine Kd.iL ?_ _)|(with_reducible refine Kd.iD ?_ _)|(with_reducible refine Kd.jE ?_)));(case ax=>exact RF.out);rintro e w' ⟨rfl,⟨nd,rfl⟩⟩;(try first|exact ⟨rfl,_,World.drewN_drewN _ _ _⟩|exact ⟨rfl,_,Eq.trans (World.drewN_drewN _ _ _) (congrArg (World.drewN _) (Nat.add_assoc _ _ _))⟩))))
  go_ret
  exact ⟨by first|rfl|(simp;done)|(simp [*];done),by repeat (first|exact bf.refl _|apply bf.step)⟩
 ·rw [aj c3] at H
  cases H
end Go.Proofs.Ytkmimamminddiaa.PB
