/- Texts of this claim, merged: PBx15, PBx6, PBx19, PBx20, PBx42, PBx2, PBx43, PBx44, PBx45, PBx46, PBx47, PBx48, PBx49, PBx52, PBx53, RwLk, PBx54, RwPt0, RwLookV. -/
import Derived.Test.YtkmimamminddiaaZkb
import Derived.Deep.Cut
import Derived.Deep.CutRange
import Derived.Deep.CutBlock
import Derived.Deep.WholeRow
set_option maxHeartbeats 40000000
set_option maxRecDepth 100000
namespace Go.Proofs.Ytkmimamminddiaa.PB
open Go.RowKit Go.Proofs.YtkmimamminddiaaW.PrintWords Go.Proofs.YtkmimamminddiaaW.PrintLast Go.Proofs.YtkmimamminddiaaW.PrintMore
attribute [local go_sem] max2_int min2_int max_two min_two max_three min_three max_four min_four   -- for this text's walks alone
set_option linter.unusedVariables false
set_option linter.unusedSimpArgs false
theorem ip_Parse.goesP {P : Program} {ops : Array Oper} {Q : Exit → Act → World → Prop} {rest : List Oper} {oi : Oper} {a : Act} {w : World} (N : Option Tmp) (_hd : oi.dst = N) (hg : oi.guard = none) {f : FuncId} {fn : Func} {as_ : Array Operand} {ts : Array TypeId} (hf : P.funcs[f]? = some fn) (hname : (fn.name == "runtime.NumGoroutine") = false) (hb : fn.body.isSome = true) (args : Array Value)
  (hop : oi.op = .call { callee := .value (.func f), args := as_, argTypes := ts }) (hargs : as_.map a.eval = args)
  (h : Calls P f args w fun e w' => ∃ ch, e = .panicked ch ∧ Q (.panic ch) a w') : wpList P ops Q (oi :: rest) a w := by
 refine wpList_plain hg fun K hK => ?_
 have he := enters_ hf hname hb args w
 have hrun : (execOp a.eval oi).run P w = .ok (.enter f args) w := by
  unfold execOp
  simp [hop, resolve, Deferred.ofValue, invoke, Act.eval, hargs, he]
 unfold Oper.wp
 rw [hrun, Oper.upon_enter]
 refine h.mono fun e w'' hh => ?_
 obtain ⟨ch, rfl, hk⟩ := hh
 exact hk
theorem ip_must.panics (a0 : Bool) (a1 : Int) (w : World) (h : a0 = false) : Calls Try.prog 117 #[.bool a0, .int .i64 a1] w fun e w' => e = .panicked [{ v := .iface 163 (.agg #[.int .i64 a1]), recovered := false }] ∧ Drawn0 w w' := by
 subst h
 have hu52 := Try.underlying163
 go_enter Try.func117, Try.ntmps117
 go_wp2
 exact ⟨rfl, rfl, by repeat (first | exact Drawn0.refl _ | apply Drawn0.step)⟩
def ip_Parse.T5 : Bool × List (List Nat × List Nat) := (true, [([], []), ([], []), ([1], [1]), ([0, 0], [0]), ([2, 3, 0, 1, 2, 3], [2])])
def ip_Parse.B5 : List Nat := [0, 0, 2, 1, 15]
theorem ip_Parse.tab5 : rtab .any (opsOf Try.f94 5) = ip_Parse.T5 := by kernel_rfl
theorem ip_Parse.bits5 : waitsOk ip_Parse.T5.2 ip_Parse.B5 = true := by kernel_rfl
theorem ip_Parse.isFailed (x : Int) (w : World) : (Instr.typeAssert (.iface 163 (.agg #[.int .i64 x])) 20 163 true).run Try.prog w = .ok (.tuple #[.agg #[.int .i64 x], .bool true]) w := by kernel_rfl
theorem ip_Parse.catch_panicking (x : Int) (w0 w : World) (B gp ge : Nat) (hp : w.heap[gp]? = some (.cells #[.int .u8 0, .int .u8 0, .int .u8 0, .int .u16 0, .int .u8 0, .int .u16 0, .int .u32 0, .int .u32 0, .slice none 0 0, .slice none 0 0] 73 (0, 0)))
  (he : w.heap[ge]? = some (.cells #[.int .i64 0] 49 (0, 0))) (hne : gp ≠ ge) (hB : Below B w0 w) (hBp : B ≤ gp) (hBe : B ≤ ge) :
  CallsD Try.prog 94 #[.pointer (some ⟨gp, 0, none⟩), .pointer (some ⟨ge, 0, none⟩)] (.panicking [{ v := .iface 163 (.agg #[.int .i64 x]), recovered := false }]) w fun e u' w' =>
   e = .returned (.tuple #[]) ∧ u' = .panicking [{ v := .iface 163 (.agg #[.int .i64 x]), recovered := true }] ∧
   w'.heap[gp]? = some (.cells #[.int .u8 0, .int .u8 0, .int .u8 0, .int .u16 0, .int .u8 0, .int .u16 0, .int .u32 0, .int .u32 0, .slice none 0 0, .slice none 0 0] 73 (0, 0)) ∧
   w'.heap[ge]? = some (.cells #[.int .i64 x] 49 (0, 0)) ∧ Below B w0 w' := by
 have HP := Aside0.mk hp
 have HE := Aside0.mk he
 have HN := Aside0.mk hne
 have HB := Aside0.mk hB
 have HBP := Aside0.mk hBp
 have HBE := Aside0.mk hBe
 clear hp he hne hB hBp hBe
 have hu30 := Try.underlying73
 have hu52 := Try.underlying163
 have hneq : ∀ (v : Value) (w : World), (binOp BinOp.neq 20 (.iface 163 v) .nilIface).run Try.prog w = .ok (.bool true) w := fun _ _ => by kernel_rfl
 have hta := ip_Parse.isFailed x
 refine callsD_of_wpS Try.func94 rfl fun c₀ cs hu => ?_
 simp only [Try.ntmps94, List.size_toArray, List.length_cons, List.length_nil, Nat.reduceAdd, Nat.reduceSub, Array.replicate_succ, Array.replicate_zero, List.push_toArray, List.append_toArray, List.nil_append, List.cons_append]
 apply wpS_seq
 apply wpS_region
 simp [wpOpsS, go_sem, recoverD, hu, Try.ntmps94, Exit.thenS]
 apply wpS_seq
 apply wpS_region
 simp [wpOpsS, go_sem, Exit.thenS]
 refine wpS_cond (t := true) (by simp [Act.eval, Array.replicate]) ?_
 simp only [if_true]
 refine wpS_of_wp ?_
 go_upto_region 5 with (fail)
 have hf : (w.alloc (.cells #[.int .i64 x] 163)).drew.cell? ⟨w.heap.size, 0, none⟩ = some (.int .i64 x) := by go_simp
 refine start_ (n := 5) (S := fun w' => w'.cell? ⟨w.heap.size, 0, none⟩ = some (.int .i64 x)) (ds := []) #[false, false, false, false, false] (by kernel_rfl) rfl rfl hf (fun hHeld => ?_)
 refine with_tabW ip_Parse.tab5 ip_Parse.bits5 (fun HT_ HW_ => ?_)
 have HNEW : w.heap.size ≠ gp := fun e => by have := blk_lt HP.out; omega
 have HNEW2 : w.heap.size ≠ ge := fun e => by have := blk_lt HE.out; omega
 have HP1 := Aside0.mk (blk_drew (blk_alloc HP.out (.cells #[.int .i64 x] 163)))
 have HE1 := Aside0.mk (blk_drew (blk_alloc HE.out (.cells #[.int .i64 x] 163)))
 have HB1 : Aside0 (Below B w0 (w.alloc (.cells #[.int .i64 x] 163)).drew) := ⟨below_drew (Below.alloc HB.out (by have := blk_lt HP.out; have := HBP.out; omega) _)⟩
 have HG1 := Aside0.mk HNEW
 have HG2 := Aside0.mk HNEW2
 clear HP HE HB HNEW HNEW2 hf
 generalize (w.alloc (.cells #[.int .i64 x] 163)).drew = wc at HP1 HE1 HB1 hHeld ⊢
 generalize w.heap.size = gf at HG1 HG2 hHeld HT_ HW_ ⊢
 refine pz 0 16 HT_ ?_
 refine pz 1 17 HT_ ?_
 refine tz 2 18 HT_ HW_ hHeld ?_
 have HN2 : Aside0 (ge ≠ gp) := ⟨fun e => HN.out e.symm⟩
 refine oz 3 (none) HT_ (fun K hK => ?_)
 have hs0 := cz HP1.out 0 rfl
 have hfs0 := blk_frozen HP1.out 0
 have hs1 := cz HP1.out 1 rfl
 have hfs1 := blk_frozen HP1.out 1
 have hs2 := cz HP1.out 2 rfl
 have hfs2 := blk_frozen HP1.out 2
 have hs3 := cz HP1.out 3 rfl
 have hfs3 := blk_frozen HP1.out 3
 have hs4 := cz HP1.out 4 rfl
 have hfs4 := blk_frozen HP1.out 4
 have hs5 := cz HP1.out 5 rfl
 have hfs5 := blk_frozen HP1.out 5
 have hs6 := cz HP1.out 6 rfl
 have hfs6 := blk_frozen HP1.out 6
 have hs7 := cz HP1.out 7 rfl
 have hfs7 := blk_frozen HP1.out 7
 have hs8 := cz HP1.out 8 rfl
 have hfs8 := blk_frozen HP1.out 8
 have hs9 := cz HP1.out 9 rfl
 have hfs9 := blk_frozen HP1.out 9
 refine skip_ (w1 := ((((((((((wc.setCell ⟨gp, 0, none⟩ (.int .u8 0)).setCell ⟨gp, 1, none⟩ (.int .u8 0)).setCell ⟨gp, 2, none⟩ (.int .u8 0)).setCell ⟨gp, 3, none⟩ (.int .u16 0)).setCell ⟨gp, 4, none⟩ (.int .u8 0)).setCell ⟨gp, 5, none⟩ (.int .u16 0)).setCell ⟨gp, 6, none⟩ (.int .u32 0)).setCell ⟨gp, 7, none⟩ (.int .u32 0)).setCell ⟨gp, 8, none⟩ (.slice none 0 0)).setCell ⟨gp, 9, none⟩ (.slice none 0 0))) (by rfl) rfl ?_ ?_
 ·go_simp
 have f1 := Aside0.mk ((cell_far (W := (((((((((wc.setCell ⟨gp, 0, none⟩ (.int .u8 0)).setCell ⟨gp, 1, none⟩ (.int .u8 0)).setCell ⟨gp, 2, none⟩ (.int .u8 0)).setCell ⟨gp, 3, none⟩ (.int .u16 0)).setCell ⟨gp, 4, none⟩ (.int .u8 0)).setCell ⟨gp, 5, none⟩ (.int .u16 0)).setCell ⟨gp, 6, none⟩ (.int .u32 0)).setCell ⟨gp, 7, none⟩ (.int .u32 0)).setCell ⟨gp, 8, none⟩ (.slice none 0 0))) (p := ⟨gp, 9, none⟩) HG1.out (.slice none 0 0)).trans ((cell_far (W := ((((((((wc.setCell ⟨gp, 0, none⟩ (.int .u8 0)).setCell ⟨gp, 1, none⟩ (.int .u8 0)).setCell ⟨gp, 2, none⟩ (.int .u8 0)).setCell ⟨gp, 3, none⟩ (.int .u16 0)).setCell ⟨gp, 4, none⟩ (.int .u8 0)).setCell ⟨gp, 5, none⟩ (.int .u16 0)).setCell ⟨gp, 6, none⟩ (.int .u32 0)).setCell ⟨gp, 7, none⟩ (.int .u32 0))) (p := ⟨gp, 8, none⟩) HG1.out (.slice none 0 0)).trans ((cell_far (W := (((((((wc.setCell ⟨gp, 0, none⟩ (.int .u8 0)).setCell ⟨gp, 1, none⟩ (.int .u8 0)).setCell ⟨gp, 2, none⟩ (.int .u8 0)).setCell ⟨gp, 3, none⟩ (.int .u16 0)).setCell ⟨gp, 4, none⟩ (.int .u8 0)).setCell ⟨gp, 5, none⟩ (.int .u16 0)).setCell ⟨gp, 6, none⟩ (.int .u32 0))) (p := ⟨gp, 7, none⟩) HG1.out (.int .u32 0)).trans ((cell_far (W := ((((((wc.setCell ⟨gp, 0, none⟩ (.int .u8 0)).setCell ⟨gp, 1, none⟩ (.int .u8 0)).setCell ⟨gp, 2, none⟩ (.int .u8 0)).setCell ⟨gp, 3, none⟩ (.int .u16 0)).setCell ⟨gp, 4, none⟩ (.int .u8 0)).setCell ⟨gp, 5, none⟩ (.int .u16 0))) (p := ⟨gp, 6, none⟩) HG1.out (.int .u32 0)).trans ((cell_far (W := (((((wc.setCell ⟨gp, 0, none⟩ (.int .u8 0)).setCell ⟨gp, 1, none⟩ (.int .u8 0)).setCell ⟨gp, 2, none⟩ (.int .u8 0)).setCell ⟨gp, 3, none⟩ (.int .u16 0)).setCell ⟨gp, 4, none⟩ (.int .u8 0))) (p := ⟨gp, 5, none⟩) HG1.out (.int .u16 0)).trans ((cell_far (W := ((((wc.setCell ⟨gp, 0, none⟩ (.int .u8 0)).setCell ⟨gp, 1, none⟩ (.int .u8 0)).setCell ⟨gp, 2, none⟩ (.int .u8 0)).setCell ⟨gp, 3, none⟩ (.int .u16 0))) (p := ⟨gp, 4, none⟩) HG1.out (.int .u8 0)).trans ((cell_far (W := (((wc.setCell ⟨gp, 0, none⟩ (.int .u8 0)).setCell ⟨gp, 1, none⟩ (.int .u8 0)).setCell ⟨gp, 2, none⟩ (.int .u8 0))) (p := ⟨gp, 3, none⟩) HG1.out (.int .u16 0)).trans ((cell_far (W := ((wc.setCell ⟨gp, 0, none⟩ (.int .u8 0)).setCell ⟨gp, 1, none⟩ (.int .u8 0))) (p := ⟨gp, 2, none⟩) HG1.out (.int .u8 0)).trans ((cell_far (W := (wc.setCell ⟨gp, 0, none⟩ (.int .u8 0))) (p := ⟨gp, 1, none⟩) HG1.out (.int .u8 0)).trans ((cell_far (W := wc) (p := ⟨gp, 0, none⟩) HG1.out (.int .u8 0)).trans hHeld))))))))))
 have f2 := Aside0.mk (blk_put (blk_put (blk_put (blk_put (blk_put (blk_put (blk_put (blk_put (blk_put (blk_put HP1.out 0 (.int .u8 0) rfl) 1 (.int .u8 0) rfl) 2 (.int .u8 0) rfl) 3 (.int .u16 0) rfl) 4 (.int .u8 0) rfl) 5 (.int .u16 0) rfl) 6 (.int .u32 0) rfl) 7 (.int .u32 0) rfl) 8 (.slice none 0 0) rfl) 9 (.slice none 0 0) rfl)
 have f3 := Aside0.mk (blk_far (blk_far (blk_far (blk_far (blk_far (blk_far (blk_far (blk_far (blk_far (blk_far HE1.out (p := ⟨gp, 0, none⟩) HN2.out (.int .u8 0)) (p := ⟨gp, 1, none⟩) HN2.out (.int .u8 0)) (p := ⟨gp, 2, none⟩) HN2.out (.int .u8 0)) (p := ⟨gp, 3, none⟩) HN2.out (.int .u16 0)) (p := ⟨gp, 4, none⟩) HN2.out (.int .u8 0)) (p := ⟨gp, 5, none⟩) HN2.out (.int .u16 0)) (p := ⟨gp, 6, none⟩) HN2.out (.int .u32 0)) (p := ⟨gp, 7, none⟩) HN2.out (.int .u32 0)) (p := ⟨gp, 8, none⟩) HN2.out (.slice none 0 0)) (p := ⟨gp, 9, none⟩) HN2.out (.slice none 0 0))
 have f4 := Aside0.mk (Below.setCell (p := ⟨gp, 9, none⟩) (Below.setCell (p := ⟨gp, 8, none⟩) (Below.setCell (p := ⟨gp, 7, none⟩) (Below.setCell (p := ⟨gp, 6, none⟩) (Below.setCell (p := ⟨gp, 5, none⟩) (Below.setCell (p := ⟨gp, 4, none⟩) (Below.setCell (p := ⟨gp, 3, none⟩) (Below.setCell (p := ⟨gp, 2, none⟩) (Below.setCell (p := ⟨gp, 1, none⟩) (Below.setCell (p := ⟨gp, 0, none⟩) HB1.out HBP.out (.int .u8 0)) HBP.out (.int .u8 0)) HBP.out (.int .u8 0)) HBP.out (.int .u16 0)) HBP.out (.int .u8 0)) HBP.out (.int .u16 0)) HBP.out (.int .u32 0)) HBP.out (.int .u32 0)) HBP.out (.slice none 0 0)) HBP.out (.slice none 0 0))
 clear hs0 hs1 hs2 hs3 hs4 hs5 hs6 hs7 hs8 hs9 hfs0 hfs1 hfs2 hfs3 hfs4 hfs5 hfs6 hfs7 hfs8 hfs9
 generalize ((((((((((wc.setCell ⟨gp, 0, none⟩ (.int .u8 0)).setCell ⟨gp, 1, none⟩ (.int .u8 0)).setCell ⟨gp, 2, none⟩ (.int .u8 0)).setCell ⟨gp, 3, none⟩ (.int .u16 0)).setCell ⟨gp, 4, none⟩ (.int .u8 0)).setCell ⟨gp, 5, none⟩ (.int .u16 0)).setCell ⟨gp, 6, none⟩ (.int .u32 0)).setCell ⟨gp, 7, none⟩ (.int .u32 0)).setCell ⟨gp, 8, none⟩ (.slice none 0 0)).setCell ⟨gp, 9, none⟩ (.slice none 0 0)) = wd at f1 f2 f3 f4 ⊢
 clear HP1 HE1 HB1 hHeld
 refine hK.out _ _ f1.out (fun hHeld => ?_)
 clear hK K
 refine oz 4 (none) HT_ (fun K hK => ?_)
 have he0 := cz f3.out 0 rfl
 have hfe0 := blk_frozen f3.out 0
 refine skip_ (w1 := wd.setCell ⟨ge, 0, none⟩ (.int .i64 x)) (by rfl) rfl ?_ ?_
 ·go_simp
 clear he0 hfe0
 refine hK.out _ _ ((cell_far (W := wd) (p := ⟨ge, 0, none⟩) HG2.out (.int .i64 x)).trans hHeld) (fun hHeld => ?_)
 clear hK K
 refine dz HT_ ?_
 have g1 : (wd.setCell ⟨ge, 0, none⟩ (.int .i64 x)).heap[gp]? = _ := blk_far f2.out (p := ⟨ge, 0, none⟩) HN.out (.int .i64 x)
 have g2 : (wd.setCell ⟨ge, 0, none⟩ (.int .i64 x)).heap[ge]? = _ := blk_put f3.out 0 (.int .i64 x) rfl
 have g3 := Below.setCell (p := ⟨ge, 0, none⟩) f4.out HBE.out (.int .i64 x)
 clear hneq hta hu30 hu52
 exact ⟨rfl, _, rfl, .tuple #[], by simp [results, Try.results94], rfl, rfl, g1, g2, g3⟩
theorem ip_Parse.catch_idle (p q : Addr) (w : World) : CallsD Try.prog 94 #[.pointer (some p), .pointer (some q)] .returning w fun e u' w' => e = .returned (.tuple #[]) ∧ u' = .returning ∧ w' = w := by
 have hneq : ∀ (w : World), (binOp BinOp.neq 20 .nilIface .nilIface).run Try.prog w = .ok (.bool false) w := fun _ => by kernel_rfl
 refine callsD_of_wpS Try.func94 rfl fun c₀ cs hu => ?_
 simp only [Try.ntmps94, List.size_toArray, List.length_cons, List.length_nil, Nat.reduceAdd, Nat.reduceSub, Array.replicate_succ, Array.replicate_zero, List.push_toArray, List.append_toArray, List.nil_append, List.cons_append]
 apply wpS_seq
 apply wpS_region
 simp [wpOpsS, go_sem, recoverD, hu, Exit.thenS]
 apply wpS_seq
 apply wpS_region
 simp [wpOpsS, go_sem, Exit.thenS, hneq]
 refine wpS_cond (t := false) (by simp [Act.eval]) ?_
 simp only [Bool.false_eq_true, if_false]
 refine wpS_of_wp (wp_skip ?_)
 cases c₀
 simp_all [bodyPostS, results, Try.results94]
theorem ip_reader_packet.pan1 (A0 : Option Addr) (c0 : Nat) (l0 : List Int) (w : World) (hr0 : Kd.C (Kd.int .u8) w A0 l0.length l0) (hc0 : l0.length ≤ c0) (h : (l0.length : Int) < 20) :
  Calls Try.prog 95 #[.slice A0 l0.length c0] w fun e w' => e = .panicked [{ v := .iface 163 (.agg #[.int .i64 20]), recovered := false }] ∧ Below w.heap.size w w' := by
 have hu30 := Try.underlying73
 have HR0 := Aside0.mk hr0
 have HC0 := Aside0.mk hc0
 clear hr0 hc0
 have HB := Aside0.mk (Below.refl w.heap.size w)
 have hd_ : decide ((l0.length : Int) ≥ 20) = false := decide_eq_false (by omega)
 have HD := Aside0.mk hd_
 clear hd_ h
 go_enter Try.func95, Try.ntmps95
 go_wp2_with (first | ((with_reducible refine gate_dst (N := 2) rfl ?_); refine box_event ?hg (N := 2) ?hd (cs := #[.int .u8 0, .int .u8 0, .int .u8 0, .int .u16 0, .int .u8 0, .int .u16 0, .int .u32 0, .int .u32 0, .slice none 0 0, .slice none 0 0]) (t := 73) ?hr ?_; (case hd => rfl); (case hg => rfl); (case hr => first | (go_simp; done) | (go_simp; rfl)); intro gb203 hg w6 hbox hb; have n0_ := Aside0.mk (below_step (bz HB) hb); have n1_ := Aside0.mk (hbox); have n2_ := Aside0.mk ((by rw [hg]; exact (below_size (bz HB)) : w.heap.size ≤ gb203)); have n3_ := Aside0.mk ((by rw [hg]; exact (below_size (bz HB)) : w.heap.size ≤ gb203)); clear HB; have HB := n0_; have BK203 := n1_; have GW203 := n2_; have GE203 := n3_; clear n0_ n1_ n2_ n3_; clear hb hbox hg) | ((with_reducible refine gate_callee (f := 117) rfl ?_); refine ip_Parse.goesP (some 9) rfl rfl Try.func117 (by kernel_rfl) rfl #[.bool (decide ((l0.length : Int) ≥ 20)), .int .i64 20] rfl (by (try simp only [List.map_toArray, List.map_cons, List.map_nil]); first | done | rfl | (simp only [List.length_drop, List.length_take]; rfl) | (go_simp; done) | (simp [Act.eval, IntKind.signed]; done) | (simp [Act.eval, IntKind.signed]; rfl)) ?_; (with_reducible refine (ip_must.panics (decide ((l0.length : Int) ≥ 20)) 20 _ HD.out).mono ?_); rintro e w' ⟨rfl, ⟨nd, rfl⟩⟩; refine ⟨_, rfl, ?_⟩; exact ⟨rfl, rfl, bz HB⟩))
theorem ip_reader_packet.pan2 (t121 : Int) (A0 : Option Addr) (c0 : Nat) (l0 : List Int) (w : World) (hr0 : Kd.C (Kd.int .u8) w A0 l0.length l0) (hc0 : l0.length ≤ c0) (hlen : (l0.length : Int) ≥ 20) (h2 : ip_reader_two.f l0 2 = some t121) (hf : ¬ ((rd l0 0) / 16 = 4 ∧ (wrap64 (4 * (wrap64 (Go.bits .and .u8 (rd l0 0) 15)))) ≥ 20 ∧ (wrap64 (t121)) ≥ (wrap64 (4 * (wrap64 (Go.bits .and .u8 (rd l0 0) 15)))))) :
  Calls Try.prog 95 #[.slice A0 l0.length c0] w fun e w' => e = .panicked [{ v := .iface 163 (.agg #[.int .i64 21]), recovered := false }] ∧ Below w.heap.size w w' := by
 have hu30 := Try.underlying73
 have HR0 := Aside0.mk hr0
 have HC0 := Aside0.mk hc0
 clear hr0 hc0
 have HB := Aside0.mk (Below.refl w.heap.size w)
 have HF := Aside0.mk hf
 clear hf
 have A2 : Aside0 (ip_must.f (decide ((l0.length : Int) ≥ 20)) 20 = some ()) := ⟨by unfold ip_must.f; rw [decide_eq_true hlen, if_pos rfl]⟩
 have A4 := Aside0.mk h2
 have c3b0 : decide (0 < (l0.length : Int)) = true := decide_eq_true (by omega)
 have c3b1 : decide (0 < l0.length) = true := decide_eq_true (by omega)
 clear hlen h2
 go_enter Try.func95, Try.ntmps95
 try go_wp2_with (first | ((with_reducible refine gate_dst (N := 2) rfl ?_); refine box_event ?hg (N := 2) ?hd (cs := #[.int .u8 0, .int .u8 0, .int .u8 0, .int .u16 0, .int .u8 0, .int .u16 0, .int .u32 0, .int .u32 0, .slice none 0 0, .slice none 0 0]) (t := 73) ?hr ?_; (case hd => rfl); (case hg => rfl); (case hr => first | (go_simp; done) | (go_simp; rfl)); intro gb203 hg w6 hbox hb; have n0_ := Aside0.mk (below_step (bz HB) hb); have n1_ := Aside0.mk (hbox); have n2_ := Aside0.mk ((by rw [hg]; exact (below_size (bz HB)) : w.heap.size ≤ gb203)); have n3_ := Aside0.mk ((by rw [hg]; exact (below_size (bz HB)) : w.heap.size ≤ gb203)); clear HB; have HB := n0_; have BK203 := n1_; have GW203 := n2_; have GE203 := n3_; clear n0_ n1_ n2_ n3_; clear hb hbox hg) | ((with_reducible refine gate_callee (f := 117) rfl ?_); refine gL 9 Try.func117 #[.bool (decide ((l0.length : Int) ≥ 20)), .int .i64 20] ?_; (with_reducible refine (ip_must.calls (decide ((l0.length : Int) ≥ 20)) 20  _ A2.out).mono ?_); rintro e w' ⟨rfl, ⟨nd, rfl⟩⟩; refine ⟨_, rfl, ?_⟩))
 (try (rw [drewN_self w6]; generalize hq_ : World.drewN w6 _ = w6; have n0_ : Aside0 (w6.heap[gb203]? = some (.cells #[.int .u8 0, .int .u8 0, .int .u8 0, .int .u16 0, .int .u8 0, .int .u16 0, .int .u32 0, .int .u32 0, .slice none 0 0, .slice none 0 0] 73 (0, 0))) := ⟨by rw [← hq_]; exact (kz BK203)⟩; have n1_ : Aside0 (Below w.heap.size w w6) := ⟨by rw [← hq_]; exact bz HB⟩; clear BK203 HB hq_; have BK203 := n0_; have HB := n1_; clear n0_ n1_))
 have n0_ := Aside0.mk (blk_drew BK203.out)
 have n1_ := Aside0.mk (below_drew1 HB.out)
 clear BK203
 clear HB
 have BK203 := n0_
 have HB := n1_
 clear n0_ n1_
 have p204 : 0 ≤ (0 : Int) := (by omega)
 have q204 : 0 < (l0.length : Int) := of_decide_eq_true (by first | (with_reducible assumption) | assumption)
 obtain ⟨ad204, e204, hx204_0⟩ := Kd.at_int HR0.out 0 p204 q204
 have hw204_0 := hx204_0
 (try rw [show ((0 : Int)).toNat = 0 from rfl] at hw204_0)
 (try rw [show 0 * 1 = 0 from rfl] at hw204_0)
 (try rw [Addr.add_zero'] at hw204_0)
 cases e204
 have qi204 : (0 < l0.length) = True := eq_true (by omega)
 (try rw [show ((0 : Int)).toNat = 0 from rfl] at hx204_0)
 (try rw [Addr.add_zero'] at hx204_0)
 replace hx204_0 := (HB.out.cell (World.block_lt_of_cell? w _ hx204_0)).trans hx204_0
 replace p204 := eq_true p204
 replace q204 := eq_true q204
 refine start_ (n := 11) (S := fun w' => w'.cell? ad204 = some (.int .u8 (rd l0 0))) (ds := []) #[false, false, false, false, false, false, false, false, false, false, false] (by kernel_rfl) rfl rfl (((HB.out.cell (World.block_lt_of_cell? w _ hw204_0)).trans hw204_0)) (fun hHeld => ?_); refine with_tabW ip_reader_packet.tab2 ip_reader_packet.bits2 (fun HT_ HW_ => ?_)
 generalize w6.drew = w7 at BK203 HB hx204_0 hHeld ⊢
 refine pz 0 10 HT_ ?_
 refine pz 1 11 HT_ ?_
 refine pz 6 16 HT_ ?_
 refine tz 2 12 HT_ HW_ hHeld ?_
 refine pz 3 13 HT_ ?_
 refine pz 4 14 HT_ ?_
 refine pz 5 15 HT_ ?_
 refine oz 7 (some 17) HT_ (fun K hK => ?_)
 refine gG Try.func118 #[.slice (some ad204) l0.length c0, .int .i64 2] ?_
 with_reducible refine (ip_reader_two.calls _ _ l0 2 t121 _ ?side1 ?side2 A4.out).mono ?_
 (case side1 => exact Kd.C_below HR0.out (bz HB))
 (case side2 => exact HC0.out)
 rintro e w' ⟨rfl, ⟨nd, rfl⟩⟩
 refine ⟨_, rfl, ?_⟩
 refine hK.out _ _ (((HB.out.cell (World.block_lt_of_cell? w _ hw204_0)).trans hw204_0)) (fun hHeld => ?_)
 clear hK K
 refine nz 17 ?_
 refine pz 8 18 HT_ ?_
 refine pz 9 3 HT_ ?_
 refine pz 10 4 HT_ ?_
 refine dz HT_ ?_
 go_upto_region 3 with (fail)
 by_cases c8 : ((rd l0 0) / 16) = 4
 ·have c8b0 : (((rd l0 0) / 16) == 4) = true := beq_iff_eq.mpr c8
  have c8b1 : (((rd l0 0) / 16) != 4) = false := bne_eq_false_iff_eq.mpr c8
  (first | rw [c8b0] | (simp only [i64_w, i32_w]; rw [c8b0]) | skip)
  by_cases c9 : (wrap64 (4 * (wrap64 (Go.bits .and .u8 (rd l0 0) 15)))) ≥ 20
  ·have c9b0 : decide (20 ≤ (wrap64 (4 * (wrap64 (Go.bits .and .u8 (rd l0 0) 15))))) = true := decide_eq_true c9
   have hd_ : decide ((wrap64 (t121)) ≥ (wrap64 (4 * (wrap64 (Go.bits .and .u8 (rd l0 0) 15))))) = false := decide_eq_false (fun hx => HF.out ⟨c8, c9, hx⟩)
   have HD := Aside0.mk hd_
   clear hd_ c8 c9
   have p206 : 0 ≤ (0 : Int) := (by omega)
   have q206 : 0 < (l0.length : Int) := of_decide_eq_true (by first | (with_reducible assumption) | assumption)
   obtain ⟨ad206, e206, hx206_0⟩ := Kd.at_int HR0.out 0 p206 q206
   obtain rfl : ad204 = ad206 := (by injection e206)
   have qi206 : (0 < l0.length) = True := eq_true (by omega)
   (try rw [show ((0 : Int)).toNat = 0 from rfl] at hx206_0)
   (try rw [Addr.add_zero'] at hx206_0)
   replace hx206_0 := (HB.out.cell (World.block_lt_of_cell? w _ hx206_0)).trans hx206_0
   replace p206 := eq_true p206
   replace q206 := eq_true q206
   go_wp2_with (first | ((with_reducible refine gate_callee (f := 117) rfl ?_); refine ip_Parse.goesP (some 33) rfl rfl Try.func117 (by kernel_rfl) rfl #[.bool (decide ((wrap64 (t121)) ≥ (wrap64 (4 * (wrap64 (Go.bits .and .u8 (rd l0 0) 15)))))), .int .i64 21] rfl (by (try simp only [List.map_toArray, List.map_cons, List.map_nil]); first | done | rfl | (simp only [List.length_drop, List.length_take]; rfl) | (go_simp; done) | (simp [Act.eval, IntKind.signed]; done) | (simp [Act.eval, IntKind.signed]; rfl)) ?_; (with_reducible refine (ip_must.panics (decide ((wrap64 (t121)) ≥ (wrap64 (4 * (wrap64 (Go.bits .and .u8 (rd l0 0) 15)))))) 21 _ HD.out).mono ?_); rintro e w' ⟨rfl, ⟨nd, rfl⟩⟩; refine ⟨_, rfl, ?_⟩; exact ⟨rfl, rfl, bz HB⟩))
  ·have c9b0 : decide (20 ≤ (wrap64 (4 * (wrap64 (Go.bits .and .u8 (rd l0 0) 15))))) = false := decide_eq_false c9
   clear c8 c9
   have p206 : 0 ≤ (0 : Int) := (by omega)
   have q206 : 0 < (l0.length : Int) := of_decide_eq_true (by first | (with_reducible assumption) | assumption)
   obtain ⟨ad206, e206, hx206_0⟩ := Kd.at_int HR0.out 0 p206 q206
   obtain rfl : ad204 = ad206 := (by injection e206)
   have qi206 : (0 < l0.length) = True := eq_true (by omega)
   (try rw [show ((0 : Int)).toNat = 0 from rfl] at hx206_0)
   (try rw [Addr.add_zero'] at hx206_0)
   replace hx206_0 := (HB.out.cell (World.block_lt_of_cell? w _ hx206_0)).trans hx206_0
   replace p206 := eq_true p206
   replace q206 := eq_true q206
   go_wp2_with (first | ((with_reducible refine gate_callee (f := 117) rfl ?_); refine ip_Parse.goesP (some 33) rfl rfl Try.func117 (by kernel_rfl) rfl #[.bool false, .int .i64 21] rfl (by (try simp only [List.map_toArray, List.map_cons, List.map_nil]); first | done | rfl | (simp only [List.length_drop, List.length_take]; rfl) | (go_simp; done) | (simp [Act.eval, IntKind.signed]; done) | (simp [Act.eval, IntKind.signed]; rfl)) ?_; (with_reducible refine (ip_must.panics false 21 _ rfl).mono ?_); rintro e w' ⟨rfl, ⟨nd, rfl⟩⟩; refine ⟨_, rfl, ?_⟩; exact ⟨rfl, rfl, bz HB⟩))
 ·have c8b0 : (((rd l0 0) / 16) == 4) = false := beq_eq_false_iff_ne.mpr c8
  have c8b1 : (((rd l0 0) / 16) != 4) = true := bne_iff_ne.mpr c8
  (first | rw [c8b0] | (simp only [i64_w, i32_w]; rw [c8b0]) | skip)
  clear c8
  have p206 : 0 ≤ (0 : Int) := (by omega)
  have q206 : 0 < (l0.length : Int) := of_decide_eq_true (by first | (with_reducible assumption) | assumption)
  obtain ⟨ad206, e206, hx206_0⟩ := Kd.at_int HR0.out 0 p206 q206
  obtain rfl : ad204 = ad206 := (by injection e206)
  have qi206 : (0 < l0.length) = True := eq_true (by omega)
  (try rw [show ((0 : Int)).toNat = 0 from rfl] at hx206_0)
  (try rw [Addr.add_zero'] at hx206_0)
  replace hx206_0 := (HB.out.cell (World.block_lt_of_cell? w _ hx206_0)).trans hx206_0
  replace p206 := eq_true p206
  replace q206 := eq_true q206
  go_wp2_with (first | ((with_reducible refine gate_callee (f := 117) rfl ?_); refine ip_Parse.goesP (some 33) rfl rfl Try.func117 (by kernel_rfl) rfl #[.bool false, .int .i64 21] rfl (by (try simp only [List.map_toArray, List.map_cons, List.map_nil]); first | done | rfl | (simp only [List.length_drop, List.length_take]; rfl) | (go_simp; done) | (simp [Act.eval, IntKind.signed]; done) | (simp [Act.eval, IntKind.signed]; rfl)) ?_; (with_reducible refine (ip_must.panics false 21 _ rfl).mono ?_); rintro e w' ⟨rfl, ⟨nd, rfl⟩⟩; refine ⟨_, rfl, ?_⟩; exact ⟨rfl, rfl, bz HB⟩))
theorem ip_reader_packet.pan3 (t121 : Int) (A0 : Option Addr) (c0 : Nat) (l0 : List Int) (w : World) (hr0 : Kd.C (Kd.int .u8) w A0 l0.length l0) (hc0 : l0.length ≤ c0) (hlen : (l0.length : Int) ≥ 20) (h2 : ip_reader_two.f l0 2 = some t121) (hf : (rd l0 0) / 16 = 4 ∧ (wrap64 (4 * (wrap64 (Go.bits .and .u8 (rd l0 0) 15)))) ≥ 20 ∧ (wrap64 (t121)) ≥ (wrap64 (4 * (wrap64 (Go.bits .and .u8 (rd l0 0) 15))))) (hs : (l0.length : Int) < (wrap64 (t121))) :
  Calls Try.prog 95 #[.slice A0 l0.length c0] w fun e w' => e = .panicked [{ v := .iface 163 (.agg #[.int .i64 20]), recovered := false }] ∧ Below w.heap.size w w' := by
 have hu30 := Try.underlying73
 have HR0 := Aside0.mk hr0
 have HC0 := Aside0.mk hc0
 clear hr0 hc0
 have HB := Aside0.mk (Below.refl w.heap.size w)
 have hd_ : decide ((l0.length : Int) ≥ (wrap64 (t121))) = false := decide_eq_false (by omega)
 have HD := Aside0.mk hd_
 clear hd_ hs
 have A10 : Aside0 (ip_must.f (decide ((wrap64 (t121)) ≥ (wrap64 (4 * (wrap64 (Go.bits .and .u8 (rd l0 0) 15)))))) 21 = some ()) := ⟨by unfold ip_must.f; rw [decide_eq_true hf.2.2, if_pos rfl]⟩
 have c8b0 : (((rd l0 0) / 16) == 4) = true := beq_iff_eq.mpr hf.1
 have c8b1 : (((rd l0 0) / 16) != 4) = false := bne_eq_false_iff_eq.mpr hf.1
 have c9b0 : decide (20 ≤ (wrap64 (4 * (wrap64 (Go.bits .and .u8 (rd l0 0) 15))))) = true := decide_eq_true hf.2.1
 clear hf
 have A2 : Aside0 (ip_must.f (decide ((l0.length : Int) ≥ 20)) 20 = some ()) := ⟨by unfold ip_must.f; rw [decide_eq_true hlen, if_pos rfl]⟩
 have A4 := Aside0.mk h2
 have c3b0 : decide (0 < (l0.length : Int)) = true := decide_eq_true (by omega)
 have c3b1 : decide (0 < l0.length) = true := decide_eq_true (by omega)
 clear hlen h2
 go_enter Try.func95, Try.ntmps95
 try go_wp2_with (first | ((with_reducible refine gate_dst (N := 2) rfl ?_); refine box_event ?hg (N := 2) ?hd (cs := #[.int .u8 0, .int .u8 0, .int .u8 0, .int .u16 0, .int .u8 0, .int .u16 0, .int .u32 0, .int .u32 0, .slice none 0 0, .slice none 0 0]) (t := 73) ?hr ?_; (case hd => rfl); (case hg => rfl); (case hr => first | (go_simp; done) | (go_simp; rfl)); intro gb203 hg w6 hbox hb; have n0_ := Aside0.mk (below_step (bz HB) hb); have n1_ := Aside0.mk (hbox); have n2_ := Aside0.mk ((by rw [hg]; exact (below_size (bz HB)) : w.heap.size ≤ gb203)); have n3_ := Aside0.mk ((by rw [hg]; exact (below_size (bz HB)) : w.heap.size ≤ gb203)); clear HB; have HB := n0_; have BK203 := n1_; have GW203 := n2_; have GE203 := n3_; clear n0_ n1_ n2_ n3_; clear hb hbox hg) | ((with_reducible refine gate_callee (f := 117) rfl ?_); refine gL 9 Try.func117 #[.bool (decide ((l0.length : Int) ≥ 20)), .int .i64 20] ?_; (with_reducible refine (ip_must.calls (decide ((l0.length : Int) ≥ 20)) 20  _ A2.out).mono ?_); rintro e w' ⟨rfl, ⟨nd, rfl⟩⟩; refine ⟨_, rfl, ?_⟩))
 (try (rw [drewN_self w6]; generalize hq_ : World.drewN w6 _ = w6; have n0_ : Aside0 (w6.heap[gb203]? = some (.cells #[.int .u8 0, .int .u8 0, .int .u8 0, .int .u16 0, .int .u8 0, .int .u16 0, .int .u32 0, .int .u32 0, .slice none 0 0, .slice none 0 0] 73 (0, 0))) := ⟨by rw [← hq_]; exact (kz BK203)⟩; have n1_ : Aside0 (Below w.heap.size w w6) := ⟨by rw [← hq_]; exact bz HB⟩; clear BK203 HB hq_; have BK203 := n0_; have HB := n1_; clear n0_ n1_))
 have n0_ := Aside0.mk (blk_drew BK203.out)
 have n1_ := Aside0.mk (below_drew1 HB.out)
 clear BK203
 clear HB
 have BK203 := n0_
 have HB := n1_
 clear n0_ n1_
 have p204 : 0 ≤ (0 : Int) := (by omega)
 have q204 : 0 < (l0.length : Int) := of_decide_eq_true (by first | (with_reducible assumption) | assumption)
 obtain ⟨ad204, e204, hx204_0⟩ := Kd.at_int HR0.out 0 p204 q204
 have hw204_0 := hx204_0
 (try rw [show ((0 : Int)).toNat = 0 from rfl] at hw204_0)
 (try rw [show 0 * 1 = 0 from rfl] at hw204_0)
 (try rw [Addr.add_zero'] at hw204_0)
 cases e204
 have qi204 : (0 < l0.length) = True := eq_true (by omega)
 (try rw [show ((0 : Int)).toNat = 0 from rfl] at hx204_0)
 (try rw [Addr.add_zero'] at hx204_0)
 replace hx204_0 := (HB.out.cell (World.block_lt_of_cell? w _ hx204_0)).trans hx204_0
 replace p204 := eq_true p204
 replace q204 := eq_true q204
 refine start_ (n := 11) (S := fun w' => w'.cell? ad204 = some (.int .u8 (rd l0 0))) (ds := []) #[false, false, false, false, false, false, false, false, false, false, false] (by kernel_rfl) rfl rfl (((HB.out.cell (World.block_lt_of_cell? w _ hw204_0)).trans hw204_0)) (fun hHeld => ?_); refine with_tabW ip_reader_packet.tab2 ip_reader_packet.bits2 (fun HT_ HW_ => ?_)
 generalize w6.drew = w7 at BK203 HB hx204_0 hHeld ⊢
 refine pz 0 10 HT_ ?_
 refine pz 1 11 HT_ ?_
 refine pz 6 16 HT_ ?_
 refine tz 2 12 HT_ HW_ hHeld ?_
 refine pz 3 13 HT_ ?_
 refine pz 4 14 HT_ ?_
 refine pz 5 15 HT_ ?_
 refine oz 7 (some 17) HT_ (fun K hK => ?_)
 refine gG Try.func118 #[.slice (some ad204) l0.length c0, .int .i64 2] ?_
 with_reducible refine (ip_reader_two.calls _ _ l0 2 t121 _ ?side1 ?side2 A4.out).mono ?_
 (case side1 => exact Kd.C_below HR0.out (bz HB))
 (case side2 => exact HC0.out)
 rintro e w' ⟨rfl, ⟨nd, rfl⟩⟩
 refine ⟨_, rfl, ?_⟩
 refine hK.out _ _ (((HB.out.cell (World.block_lt_of_cell? w _ hw204_0)).trans hw204_0)) (fun hHeld => ?_)
 clear hK K
 refine nz 17 ?_
 refine pz 8 18 HT_ ?_
 refine pz 9 3 HT_ ?_
 refine pz 10 4 HT_ ?_
 refine dz HT_ ?_
 go_upto_region 3 with (fail)
 (first | rw [c8b0] | (simp only [i64_w, i32_w]; rw [c8b0]) | skip)
 have p206 : 0 ≤ (0 : Int) := (by omega)
 have q206 : 0 < (l0.length : Int) := of_decide_eq_true (by first | (with_reducible assumption) | assumption)
 obtain ⟨ad206, e206, hx206_0⟩ := Kd.at_int HR0.out 0 p206 q206
 obtain rfl : ad204 = ad206 := (by injection e206)
 have qi206 : (0 < l0.length) = True := eq_true (by omega)
 (try rw [show ((0 : Int)).toNat = 0 from rfl] at hx206_0)
 (try rw [Addr.add_zero'] at hx206_0)
 replace hx206_0 := (HB.out.cell (World.block_lt_of_cell? w _ hx206_0)).trans hx206_0
 replace p206 := eq_true p206
 replace q206 := eq_true q206
 go_wp2_with (first | ((with_reducible refine gate_callee (f := 117) rfl ?_); refine gL 33 Try.func117 #[.bool (decide ((wrap64 (t121)) ≥ (wrap64 (4 * (wrap64 (Go.bits .and .u8 (rd l0 0) 15)))))), .int .i64 21] ?_; (with_reducible refine (ip_must.calls (decide ((wrap64 (t121)) ≥ (wrap64 (4 * (wrap64 (Go.bits .and .u8 (rd l0 0) 15)))))) 21  _ A10.out).mono ?_); rintro e w' ⟨rfl, ⟨nd, rfl⟩⟩; refine ⟨_, rfl, ?_⟩) | ((with_reducible refine gate_callee (f := 117) rfl ?_); refine ip_Parse.goesP (some 38) rfl rfl Try.func117 (by kernel_rfl) rfl #[.bool (decide ((l0.length : Int) ≥ (wrap64 (t121)))), .int .i64 20] rfl (by (try simp only [List.map_toArray, List.map_cons, List.map_nil]); first | done | rfl | (simp only [List.length_drop, List.length_take]; rfl) | (go_simp; done) | (simp [Act.eval, IntKind.signed]; done) | (simp [Act.eval, IntKind.signed]; rfl)) ?_; (with_reducible refine (ip_must.panics (decide ((l0.length : Int) ≥ (wrap64 (t121)))) 20 _ HD.out).mono ?_); rintro e w' ⟨rfl, ⟨nd, rfl⟩⟩; refine ⟨_, rfl, ?_⟩; exact ⟨rfl, rfl, bz HB⟩))
theorem ip_reader_packet.pan4 (k : Nat) (t121 t124 t125 : Int) (A0 : Option Addr) (c0 : Nat) (l0 : List Int) (w : World) (hr0 : Kd.C (Kd.int .u8) w A0 l0.length l0) (hc0 : l0.length ≤ c0) (hlen : (l0.length : Int) ≥ 20) (h2 : ip_reader_two.f l0 2 = some t121) (hf : (rd l0 0) / 16 = 4 ∧ (wrap64 (4 * (wrap64 (Go.bits .and .u8 (rd l0 0) 15)))) ≥ 20 ∧ (wrap64 (t121)) ≥ (wrap64 (4 * (wrap64 (Go.bits .and .u8 (rd l0 0) 15))))) (hs : (l0.length : Int) ≥ (wrap64 (t121))) (ha : sum_Add.f k 0 (l0.take ((wrap64 (4 * (wrap64 (Go.bits .and .u8 (rd l0 0) 15)))) : Int).toNat) = some t124) (hb_ : sum_Fold.f k t124 = some t125) (hx : t125 ≠ 65535) :
  Calls Try.prog 95 #[.slice A0 l0.length c0] w fun e w' => e = .panicked [{ v := .iface 163 (.agg #[.int .i64 22]), recovered := false }] ∧ Below w.heap.size w w' := by
 have hu30 := Try.underlying73
 have HR0 := Aside0.mk hr0
 have HC0 := Aside0.mk hc0
 clear hr0 hc0
 have HB := Aside0.mk (Below.refl w.heap.size w)
 have HD : Aside0 ((t125 == 65535) = false) := ⟨beq_eq_false_iff_ne.mpr hx⟩
 clear hx
 have A13 : Aside0 (ip_must.f (decide ((l0.length : Int) ≥ (wrap64 (t121)))) 20 = some ()) := ⟨by unfold ip_must.f; rw [decide_eq_true hs, if_pos rfl]⟩
 have A17 := Aside0.mk ha
 have A18 := Aside0.mk hb_
 have c15b1 : decide (0 ≤ (wrap64 (4 * (wrap64 (Go.bits .and .u8 (rd l0 0) 15))))) = true := decide_eq_true (by omega)
 have c16b1 : decide ((wrap64 (4 * (wrap64 (Go.bits .and .u8 (rd l0 0) 15)))) ≤ (l0.length : Int)) = true := decide_eq_true (by omega)
 have c15b0 := eq_true (of_decide_eq_true c15b1)
 have c16b0 := eq_true (of_decide_eq_true c16b1)
 have A10 : Aside0 (ip_must.f (decide ((wrap64 (t121)) ≥ (wrap64 (4 * (wrap64 (Go.bits .and .u8 (rd l0 0) 15)))))) 21 = some ()) := ⟨by unfold ip_must.f; rw [decide_eq_true hf.2.2, if_pos rfl]⟩
 have c8b0 : (((rd l0 0) / 16) == 4) = true := beq_iff_eq.mpr hf.1
 have c8b1 : (((rd l0 0) / 16) != 4) = false := bne_eq_false_iff_eq.mpr hf.1
 have c9b0 : decide (20 ≤ (wrap64 (4 * (wrap64 (Go.bits .and .u8 (rd l0 0) 15))))) = true := decide_eq_true hf.2.1
 clear hf hs ha hb_
 have A2 : Aside0 (ip_must.f (decide ((l0.length : Int) ≥ 20)) 20 = some ()) := ⟨by unfold ip_must.f; rw [decide_eq_true hlen, if_pos rfl]⟩
 have A4 := Aside0.mk h2
 have c3b0 : decide (0 < (l0.length : Int)) = true := decide_eq_true (by omega)
 have c3b1 : decide (0 < l0.length) = true := decide_eq_true (by omega)
 clear hlen h2
 go_enter Try.func95, Try.ntmps95
 try go_wp2_with (first | ((with_reducible refine gate_dst (N := 2) rfl ?_); refine box_event ?hg (N := 2) ?hd (cs := #[.int .u8 0, .int .u8 0, .int .u8 0, .int .u16 0, .int .u8 0, .int .u16 0, .int .u32 0, .int .u32 0, .slice none 0 0, .slice none 0 0]) (t := 73) ?hr ?_; (case hd => rfl); (case hg => rfl); (case hr => first | (go_simp; done) | (go_simp; rfl)); intro gb203 hg w6 hbox hb; have n0_ := Aside0.mk (below_step (bz HB) hb); have n1_ := Aside0.mk (hbox); have n2_ := Aside0.mk ((by rw [hg]; exact (below_size (bz HB)) : w.heap.size ≤ gb203)); have n3_ := Aside0.mk ((by rw [hg]; exact (below_size (bz HB)) : w.heap.size ≤ gb203)); clear HB; have HB := n0_; have BK203 := n1_; have GW203 := n2_; have GE203 := n3_; clear n0_ n1_ n2_ n3_; clear hb hbox hg) | ((with_reducible refine gate_callee (f := 117) rfl ?_); refine gL 9 Try.func117 #[.bool (decide ((l0.length : Int) ≥ 20)), .int .i64 20] ?_; (with_reducible refine (ip_must.calls (decide ((l0.length : Int) ≥ 20)) 20  _ A2.out).mono ?_); rintro e w' ⟨rfl, ⟨nd, rfl⟩⟩; refine ⟨_, rfl, ?_⟩))
 (try (rw [drewN_self w6]; generalize hq_ : World.drewN w6 _ = w6; have n0_ : Aside0 (w6.heap[gb203]? = some (.cells #[.int .u8 0, .int .u8 0, .int .u8 0, .int .u16 0, .int .u8 0, .int .u16 0, .int .u32 0, .int .u32 0, .slice none 0 0, .slice none 0 0] 73 (0, 0))) := ⟨by rw [← hq_]; exact (kz BK203)⟩; have n1_ : Aside0 (Below w.heap.size w w6) := ⟨by rw [← hq_]; exact bz HB⟩; clear BK203 HB hq_; have BK203 := n0_; have HB := n1_; clear n0_ n1_))
 have n0_ := Aside0.mk (blk_drew BK203.out)
 have n1_ := Aside0.mk (below_drew1 HB.out)
 clear BK203
 clear HB
 have BK203 := n0_
 have HB := n1_
 clear n0_ n1_
 have p204 : 0 ≤ (0 : Int) := (by omega)
 have q204 : 0 < (l0.length : Int) := of_decide_eq_true (by first | (with_reducible assumption) | assumption)
 obtain ⟨ad204, e204, hx204_0⟩ := Kd.at_int HR0.out 0 p204 q204
 have hw204_0 := hx204_0
 (try rw [show ((0 : Int)).toNat = 0 from rfl] at hw204_0)
 (try rw [show 0 * 1 = 0 from rfl] at hw204_0)
 (try rw [Addr.add_zero'] at hw204_0)
 cases e204
 have qi204 : (0 < l0.length) = True := eq_true (by omega)
 (try rw [show ((0 : Int)).toNat = 0 from rfl] at hx204_0)
 (try rw [Addr.add_zero'] at hx204_0)
 replace hx204_0 := (HB.out.cell (World.block_lt_of_cell? w _ hx204_0)).trans hx204_0
 replace p204 := eq_true p204
 replace q204 := eq_true q204
 refine start_ (n := 11) (S := fun w' => w'.cell? ad204 = some (.int .u8 (rd l0 0))) (ds := []) #[false, false, false, false, false, false, false, false, false, false, false] (by kernel_rfl) rfl rfl (((HB.out.cell (World.block_lt_of_cell? w _ hw204_0)).trans hw204_0)) (fun hHeld => ?_); refine with_tabW ip_reader_packet.tab2 ip_reader_packet.bits2 (fun HT_ HW_ => ?_)
 generalize w6.drew = w7 at BK203 HB hx204_0 hHeld ⊢
 refine pz 0 10 HT_ ?_
 refine pz 1 11 HT_ ?_
 refine pz 6 16 HT_ ?_
 refine tz 2 12 HT_ HW_ hHeld ?_
 refine pz 3 13 HT_ ?_
 refine pz 4 14 HT_ ?_
 refine pz 5 15 HT_ ?_
 refine oz 7 (some 17) HT_ (fun K hK => ?_)
 refine gG Try.func118 #[.slice (some ad204) l0.length c0, .int .i64 2] ?_
 with_reducible refine (ip_reader_two.calls _ _ l0 2 t121 _ ?side1 ?side2 A4.out).mono ?_
 (case side1 => exact Kd.C_below HR0.out (bz HB))
 (case side2 => exact HC0.out)
 rintro e w' ⟨rfl, ⟨nd, rfl⟩⟩
 refine ⟨_, rfl, ?_⟩
 refine hK.out _ _ (((HB.out.cell (World.block_lt_of_cell? w _ hw204_0)).trans hw204_0)) (fun hHeld => ?_)
 clear hK K
 refine nz 17 ?_
 refine pz 8 18 HT_ ?_
 refine pz 9 3 HT_ ?_
 refine pz 10 4 HT_ ?_
 refine dz HT_ ?_
 go_upto_region 3 with (fail)
 (first | rw [c8b0] | (simp only [i64_w, i32_w]; rw [c8b0]) | skip)
 have p206 : 0 ≤ (0 : Int) := (by omega)
 have q206 : 0 < (l0.length : Int) := of_decide_eq_true (by first | (with_reducible assumption) | assumption)
 obtain ⟨ad206, e206, hx206_0⟩ := Kd.at_int HR0.out 0 p206 q206
 obtain rfl : ad204 = ad206 := (by injection e206)
 have qi206 : (0 < l0.length) = True := eq_true (by omega)
 (try rw [show ((0 : Int)).toNat = 0 from rfl] at hx206_0)
 (try rw [Addr.add_zero'] at hx206_0)
 replace hx206_0 := (HB.out.cell (World.block_lt_of_cell? w _ hx206_0)).trans hx206_0
 replace p206 := eq_true p206
 replace q206 := eq_true q206
 go_upto_region 4 with (first | ((with_reducible refine gate_callee (f := 117) rfl ?_); refine gL 33 Try.func117 #[.bool (decide ((wrap64 (t121)) ≥ (wrap64 (4 * (wrap64 (Go.bits .and .u8 (rd l0 0) 15)))))), .int .i64 21] ?_; (with_reducible refine (ip_must.calls (decide ((wrap64 (t121)) ≥ (wrap64 (4 * (wrap64 (Go.bits .and .u8 (rd l0 0) 15)))))) 21  _ A10.out).mono ?_); rintro e w' ⟨rfl, ⟨nd, rfl⟩⟩; refine ⟨_, rfl, ?_⟩))
 obtain ⟨ji14, hji14⟩ : ∃ j_ : Int, (wrap64 (4 * (wrap64 (Go.bits .and .u8 (rd l0 0) 15)))) = j_ := ⟨_, rfl⟩
 rw [hji14] at A17 c15b1 c16b1 c15b0 c16b0
 have hji14w : (IntKind.i64.wrap (4 * (wrap64 (Go.bits .and .u8 (rd l0 0) 15)))) = ji14 := (i64_w _).trans hji14
 go_wp2_with (first | ((with_reducible refine gate_callee (f := 117) rfl ?_); refine gL 38 Try.func117 #[.bool (decide ((l0.length : Int) ≥ (wrap64 (t121)))), .int .i64 20] ?_; (with_reducible refine (ip_must.calls (decide ((l0.length : Int) ≥ (wrap64 (t121)))) 20  _ A13.out).mono ?_); rintro e w' ⟨rfl, ⟨nd, rfl⟩⟩; refine ⟨_, rfl, ?_⟩; (try (rw [drewN_self w7]; generalize hq_ : World.drewN wc _ = w7; have n0_ : Aside0 (w7.heap[gb203]? = some (.cells #[.int .u8 0, .int .u8 0, .int .u8 0, .int .u16 0, .int .u8 0, .int .u16 0, .int .u32 0, .int .u32 0, .slice none 0 0, .slice none 0 0] 73 (0, 0))) := ⟨by rw [← hq_]; exact (kz BK203)⟩; have n1_ : Aside0 (Below w.heap.size w w7) := ⟨by rw [← hq_]; exact bz HB⟩; clear BK203 HB hq_; have BK203 := n0_; have HB := n1_; clear n0_ n1_)); obtain ⟨i034, hi034, _, hsz34, _⟩ := info_parts info5; obtain ⟨hcut34, hA34, hC34⟩ := print_take_of (P := Try.prog) (Value.int .u8) 0 165 5 .i64 Try.underlying165 hi034 hsz34 (some ad204) c0 l0 (ji14) (of_decide_eq_true (by first | (with_reducible assumption) | assumption)) (of_decide_eq_true (by first | (with_reducible assumption) | assumption)) HC0.out; have HR207 := Aside0.mk (Kd.C_of_reads (h1 := fun _ => rfl) (hA34 _ (Kd.reads_of_C HR0.out))); have HC207 := Aside0.mk hC34; clear hA34 hC34 hi034 hsz34) | ((with_reducible refine gate_callee (f := 116) rfl ?_); refine goesL_ (some 42) rfl rfl Try.func116 (by kernel_rfl) rfl #[.int .u32 0, .slice (some ad204) (l0.take ((ji14) : Int).toNat).length c0] rfl (by (try simp only [List.map_toArray, List.map_cons, List.map_nil]); first | done | (rw [show (l0.take ((ji14) : Int).toNat).length = (ji14).toNat from (by rw [List.length_take]; have h_ : ((ji14) : Int) ≤ (l0.length : Int) := of_decide_eq_true (by first | (with_reducible assumption) | assumption); omega)] <;> rfl) | (simp only [hji14]; rfl) | rfl | (simp only [List.length_drop, List.length_take]; rfl) | (go_simp; done) | (simp [Act.eval, IntKind.signed]; done) | (simp [Act.eval, IntKind.signed]; rfl)) ?_; (with_reducible refine (sum_Add.calls k 0 _ _ (l0.take ((ji14) : Int).toNat) t124 _ ?side1 ?side2 A17.out).mono ?_); (case side1 => exact Kd.C_below HR207.out (bz HB)); (case side2 => exact HC207.out); rintro e w35 ⟨rfl, hb⟩; refine ⟨_, rfl, ?_⟩; have n0_ := Aside0.mk (blk_below (kz BK203) hb); have n1_ := Aside0.mk (below_step (bz HB) hb); clear BK203; clear HB; have BK203 := n0_; have HB := n1_; clear n0_ n1_; (try clear hb); (try clear hb2); (try clear hk); (try clear hi)) | ((with_reducible refine gate_callee (f := 115) rfl ?_); refine gL 43 Try.func115 #[.int .u32 t124] ?_; (with_reducible refine (sum_Fold.calls k t124 t125 _ A18.out).mono ?_); rintro e w' ⟨rfl, ⟨nd, rfl⟩⟩; refine ⟨_, rfl, ?_⟩; (try (rw [drewN_self w35]; generalize hq_ : World.drewN w35 _ = w35; have n0_ : Aside0 (w35.heap[gb203]? = some (.cells #[.int .u8 0, .int .u8 0, .int .u8 0, .int .u16 0, .int .u8 0, .int .u16 0, .int .u32 0, .int .u32 0, .slice none 0 0, .slice none 0 0] 73 (0, 0))) := ⟨by rw [← hq_]; exact (kz BK203)⟩; have n1_ : Aside0 (Below w.heap.size w w35) := ⟨by rw [← hq_]; exact bz HB⟩; clear BK203 HB hq_; have BK203 := n0_; have HB := n1_; clear n0_ n1_))) | ((with_reducible refine gate_callee (f := 117) rfl ?_); refine ip_Parse.goesP (some 45) rfl rfl Try.func117 (by kernel_rfl) rfl #[.bool (t125 == 65535), .int .i64 22] rfl (by (try simp only [List.map_toArray, List.map_cons, List.map_nil]); first | done | rfl | (simp only [List.length_drop, List.length_take]; rfl) | (go_simp; done) | (simp [Act.eval, IntKind.signed]; done) | (simp [Act.eval, IntKind.signed]; rfl)) ?_; (with_reducible refine (ip_must.panics (t125 == 65535) 22 _ HD.out).mono ?_); rintro e w' ⟨rfl, ⟨nd, rfl⟩⟩; refine ⟨_, rfl, ?_⟩; exact ⟨rfl, rfl, bz HB⟩))
theorem ip_Parse.told {tmps : Array Value} {w : World} {gp ge : Nat} {cs : Array Value} {x : Int} (hs : cs.size = 10) (hp : tmps.getD 2 undef = .pointer (some ⟨gp, 0, none⟩)) (hg : w.heap[gp]? = some (.cells cs 73 (0, 0)))
  (he : tmps.getD 3 undef = .pointer (some ⟨ge, 0, none⟩)) (hx : w.heap[ge]? = some (.cells #[.int .i64 x] 49 (0, 0))) : (results Try.f57 tmps).run Try.prog w = .ok (.tuple #[.agg cs, .int .i64 x]) w := by
 have h1 : tmps[2]?.getD undef = .pointer (some ⟨gp, 0, none⟩) := by simpa using hp
 have h2 : tmps[3]?.getD undef = .pointer (some ⟨ge, 0, none⟩) := by simpa using he
 have hc : w.cell? ⟨ge, 0, none⟩ = some (.int .i64 x) := (blk_cell hx 0).trans rfl
 have hl : (loadVar 49 ⟨ge, 0, none⟩).run Try.prog w = .ok (.int .i64 x) w := by
  have hu := Try.underlying49
  have hagg : (isAgg 49).run Try.prog w = .ok false w := by kernel_rfl
  simp [loadVar, hu, hc, hagg]
 simp [results, Try.results57, h1, h2, asAddr, run_loadVar_row w gp 73 73 cs (0, 0) _ hg Try.underlying73 rfl (by rw [hs]; kernel_rfl), hl]
theorem ip_Parse.fail (x : Int) (A0 : Option Addr) (c0 n : Nat) (w : World) (hp : ∀ W, Below w.heap.size w W → Calls Try.prog 95 #[.slice A0 n c0] W fun e w' => e = .panicked [{ v := .iface 163 (.agg #[.int .i64 x]), recovered := false }] ∧ Below W.heap.size W w') :
  Calls Try.prog 57 #[.slice A0 n c0] w fun e w' => e = .returned (.tuple #[.agg #[.int .u8 0, .int .u8 0, .int .u8 0, .int .u16 0, .int .u8 0, .int .u16 0, .int .u32 0, .int .u32 0, .slice none 0 0, .slice none 0 0], .int .i64 x]) ∧ Below w.heap.size w w' := by
 have HB := Aside0.mk (Below.refl w.heap.size w)
 have HC := Aside0.mk hp
 clear hp
 have hmf : ∀ (fn : Fn) (first cap : Array Value) (w : World), (Instr.makeFunc fn first cap).run Try.prog w = .ok (.func fn first cap) w := fun _ _ _ _ => rfl
 go_enter_defers Try.func57, Try.ntmps57
 go_wp2_with (first | ((with_reducible refine gate_dst (N := 2) rfl ?_); refine box_event ?hg (N := 2) ?hd (cs := #[.int .u8 0, .int .u8 0, .int .u8 0, .int .u16 0, .int .u8 0, .int .u16 0, .int .u32 0, .int .u32 0, .slice none 0 0, .slice none 0 0]) (t := 73) ?hr ?_; (case hd => rfl); (case hg => rfl); (case hr => first | (go_simp; done) | (go_simp; rfl)); intro gp hg w1 hbox hb; have n0_ := Aside0.mk (below_step (bz HB) hb); have HP := Aside0.mk hbox; have GP := Aside0.mk ((by rw [hg]; exact (below_size (bz HB))) : w.heap.size ≤ gp); clear HB; have HB := n0_; clear n0_ hb hbox hg) | ((with_reducible refine gate_dst (N := 3) rfl ?_); refine box_event ?hg (N := 3) ?hd (cs := #[.int .i64 0]) (t := 49) ?hr ?_; (case hd => rfl); (case hg => rfl); (case hr => first | (go_simp; done) | (go_simp; rfl)); intro ge hg w2 hbox hb; have GN := Aside0.mk (show gp ≠ ge by rw [hg]; exact Nat.ne_of_lt (blk_lt (kz HP))); have n1_ := Aside0.mk (blk_below (kz HP) hb); have n0_ := Aside0.mk (below_step (bz HB) hb); have HE := Aside0.mk hbox; have GE := Aside0.mk ((by rw [hg]; exact (below_size (bz HB))) : w.heap.size ≤ ge); clear HB HP; have HB := n0_; have HP := n1_; clear n0_ n1_ hb hbox hg))
 refine (HC.out _ (bz HB)).mono ?_
 rintro e w' ⟨rfl, hb⟩
 have HP3 := Aside0.mk (blk_below (kz HP) hb)
 have HE3 := Aside0.mk (blk_below (kz HE) hb)
 have HB3 := Aside0.mk (below_step (bz HB) hb)
 clear hb HP HE HB
 show Leaves _ _ _ _ _ _ _
 refine leaves_cons (f := 94) (args := #[.pointer (some ⟨gp, 0, none⟩), .pointer (some ⟨ge, 0, none⟩)]) (by simp) (by simp [go_sem]) ?_
 refine (ip_Parse.catch_panicking x w w' w.heap.size gp ge HP3.out HE3.out GN.out HB3.out GP.out GE.out).mono ?_
 rintro e u' w'' ⟨rfl, rfl, f1, f2, f3⟩
 exact ⟨_, ip_Parse.told rfl rfl f1 rfl f2, rfl, f3⟩
theorem ip_Parse.done (k : Nat) (A0 : Option Addr) (c0 : Nat) (l0 : List Int) (r1 : Int) (r2 : Int) (r3 : Int) (r4 : Int) (r5 : Int) (r6 : Int) (r7 : Int) (r8 : Int) (r9 : List Int) (r10 : List Int) (w : World) (hr0 : Kd.C (Kd.int .u8) w A0 l0.length l0) (hc0 : l0.length ≤ c0) (h : ip_reader_packet.f k l0 = some (r1, r2, r3, r4, r5, r6, r7, r8, r9, r10)) :
  Calls Try.prog 57 #[.slice A0 l0.length c0] w fun e w' => ∃ v8_ v9_ : Value, e = .returned (.tuple #[.agg #[.int .u8 r1, .int .u8 r2, .int .u8 r3, .int .u16 r4, .int .u8 r5, .int .u16 r6, .int .u32 r7, .int .u32 r8, v8_, v9_], .int .i64 0]) ∧ Kd.R (Kd.int .u8) 5 w' w.heap.size (fun k_ => some k_ ≠ (v9_ : Value).ownBlock) v8_ r9 ∧ Kd.R (Kd.int .u8) 5 w' w.heap.size (fun k_ => some k_ ≠ (v8_ : Value).ownBlock) v9_ r10 ∧ Below w.heap.size w w' := by
 have HB := Aside0.mk (Below.refl w.heap.size w)
 have HR0 := Aside0.mk hr0
 have HC0 := Aside0.mk hc0
 have HH := Aside0.mk h
 clear hr0 hc0 h
 have hu30 := Try.underlying73
 have hmf : ∀ (fn : Fn) (first cap : Array Value) (w : World), (Instr.makeFunc fn first cap).run Try.prog w = .ok (.func fn first cap) w := fun _ _ _ _ => rfl
 go_enter_defers Try.func57, Try.ntmps57
 go_wp2_with (first | ((with_reducible refine gate_dst (N := 2) rfl ?_); refine box_event ?hg (N := 2) ?hd (cs := #[.int .u8 0, .int .u8 0, .int .u8 0, .int .u16 0, .int .u8 0, .int .u16 0, .int .u32 0, .int .u32 0, .slice none 0 0, .slice none 0 0]) (t := 73) ?hr ?_; (case hd => rfl); (case hg => rfl); (case hr => first | (go_simp; done) | (go_simp; rfl)); intro gp hg w1 hbox hb; have n0_ := Aside0.mk (below_step (bz HB) hb); have HP := Aside0.mk hbox; have GP := Aside0.mk ((by rw [hg]; exact (below_size (bz HB))) : w.heap.size ≤ gp); clear HB; have HB := n0_; clear n0_ hb hbox hg) | ((with_reducible refine gate_dst (N := 3) rfl ?_); refine box_event ?hg (N := 3) ?hd (cs := #[.int .i64 0]) (t := 49) ?hr ?_; (case hd => rfl); (case hg => rfl); (case hr => first | (go_simp; done) | (go_simp; rfl)); intro ge hg w2 hbox hb; have GN := Aside0.mk (show gp ≠ ge by rw [hg]; exact Nat.ne_of_lt (blk_lt (kz HP))); have n1_ := Aside0.mk (blk_below (kz HP) hb); have n0_ := Aside0.mk (below_step (bz HB) hb); have HE := Aside0.mk hbox; have GE := Aside0.mk ((by rw [hg]; exact (below_size (bz HB))) : w.heap.size ≤ ge); clear HB HP; have HB := n0_; have HP := n1_; clear n0_ n1_ hb hbox hg))
 refine (ip_reader_packet.calls k A0 c0 l0 r1 r2 r3 r4 r5 r6 r7 r8 r9 r10 _ (Kd.C_below HR0.out (bz HB)) HC0.out HH.out).mono ?_
 rintro e w' ⟨v8_, v9_, rfl, ho8, ho9, hb⟩
 obtain ⟨B8, d8, rfl⟩ := Kd.R_slice ho8
 obtain ⟨B9, d9, rfl⟩ := Kd.R_slice ho9
 have HP3 := Aside0.mk (blk_below (kz HP) hb)
 have HE3 := Aside0.mk (blk_below (kz HE) hb)
 have HB3 := Aside0.mk (below_step (bz HB) hb)
 have HLP : gp < w2.heap.size := blk_lt HP.out
 have HLE : ge < w2.heap.size := blk_lt HE.out
 have HS : w.heap.size ≤ w2.heap.size := below_size (bz HB)
 have O8 := Aside0.mk ho8
 have O9 := Aside0.mk ho9
 clear hb HP HE HB ho8 ho9
 (try dsimp only)
 have hs0 : w'.cell? ⟨gp, 0, none⟩ = some (.int .u8 0) := cz HP3.out 0 rfl
 have hfs0 := blk_frozen HP3.out 0
 have hs1 : w'.cell? ⟨gp, 1, none⟩ = some (.int .u8 0) := cz HP3.out 1 rfl
 have hfs1 := blk_frozen HP3.out 1
 have hs2 : w'.cell? ⟨gp, 2, none⟩ = some (.int .u8 0) := cz HP3.out 2 rfl
 have hfs2 := blk_frozen HP3.out 2
 have hs3 : w'.cell? ⟨gp, 3, none⟩ = some (.int .u16 0) := cz HP3.out 3 rfl
 have hfs3 := blk_frozen HP3.out 3
 have hs4 : w'.cell? ⟨gp, 4, none⟩ = some (.int .u8 0) := cz HP3.out 4 rfl
 have hfs4 := blk_frozen HP3.out 4
 have hs5 : w'.cell? ⟨gp, 5, none⟩ = some (.int .u16 0) := cz HP3.out 5 rfl
 have hfs5 := blk_frozen HP3.out 5
 have hs6 : w'.cell? ⟨gp, 6, none⟩ = some (.int .u32 0) := cz HP3.out 6 rfl
 have hfs6 := blk_frozen HP3.out 6
 have hs7 : w'.cell? ⟨gp, 7, none⟩ = some (.int .u32 0) := cz HP3.out 7 rfl
 have hfs7 := blk_frozen HP3.out 7
 have hs8 : w'.cell? ⟨gp, 8, none⟩ = some (.slice none 0 0) := cz HP3.out 8 rfl
 have hfs8 := blk_frozen HP3.out 8
 have hs9 : w'.cell? ⟨gp, 9, none⟩ = some (.slice none 0 0) := cz HP3.out 9 rfl
 have hfs9 := blk_frozen HP3.out 9
 have hse : w'.cell? ⟨ge, 0, none⟩ = some (.int .i64 0) := cz HE3.out 0 rfl
 have hfse := blk_frozen HE3.out 0
 have hnge : gp ≠ ge := GN.out
 have hneg : ge ≠ gp := fun e => hnge e.symm
 go_wp2
 clear hs0 hfs0 hs1 hfs1 hs2 hfs2 hs3 hfs3 hs4 hfs4 hs5 hfs5 hs6 hfs6 hs7 hfs7 hs8 hfs8 hs9 hfs9
 have b0 := HP3.out
 have e0 := HE3.out
 have l0_ := HB3.out
 have u0 := O8.out
 have t0 := O9.out
 have b1 := blk_put (cs' := #[.int .u8 r1, .int .u8 0, .int .u8 0, .int .u16 0, .int .u8 0, .int .u16 0, .int .u32 0, .int .u32 0, .slice none 0 0, .slice none 0 0]) b0 0 (.int .u8 r1) rfl
 have e1 := blk_far e0 (p := ⟨gp, 0, none⟩) hneg (.int .u8 r1)
 have l1_ := Below.setCell (p := ⟨gp, 0, none⟩) l0_ GP.out (.int .u8 r1)
 have u1 := Kd.R_set u0 b0 (by decide) 0 (.int .u8 r1)
 have t1 := Kd.R_set t0 b0 (by decide) 0 (.int .u8 r1)
 clear b0 e0 l0_ u0 t0
 have b2 := blk_put (cs' := #[.int .u8 r1, .int .u8 r2, .int .u8 0, .int .u16 0, .int .u8 0, .int .u16 0, .int .u32 0, .int .u32 0, .slice none 0 0, .slice none 0 0]) b1 1 (.int .u8 r2) rfl
 have e2 := blk_far e1 (p := ⟨gp, 1, none⟩) hneg (.int .u8 r2)
 have l2_ := Below.setCell (p := ⟨gp, 1, none⟩) l1_ GP.out (.int .u8 r2)
 have u2 := Kd.R_set u1 b1 (by decide) 1 (.int .u8 r2)
 have t2 := Kd.R_set t1 b1 (by decide) 1 (.int .u8 r2)
 clear b1 e1 l1_ u1 t1
 have b3 := blk_put (cs' := #[.int .u8 r1, .int .u8 r2, .int .u8 r3, .int .u16 0, .int .u8 0, .int .u16 0, .int .u32 0, .int .u32 0, .slice none 0 0, .slice none 0 0]) b2 2 (.int .u8 r3) rfl
 have e3 := blk_far e2 (p := ⟨gp, 2, none⟩) hneg (.int .u8 r3)
 have l3_ := Below.setCell (p := ⟨gp, 2, none⟩) l2_ GP.out (.int .u8 r3)
 have u3 := Kd.R_set u2 b2 (by decide) 2 (.int .u8 r3)
 have t3 := Kd.R_set t2 b2 (by decide) 2 (.int .u8 r3)
 clear b2 e2 l2_ u2 t2
 have b4 := blk_put (cs' := #[.int .u8 r1, .int .u8 r2, .int .u8 r3, .int .u16 r4, .int .u8 0, .int .u16 0, .int .u32 0, .int .u32 0, .slice none 0 0, .slice none 0 0]) b3 3 (.int .u16 r4) rfl
 have e4 := blk_far e3 (p := ⟨gp, 3, none⟩) hneg (.int .u16 r4)
 have l4_ := Below.setCell (p := ⟨gp, 3, none⟩) l3_ GP.out (.int .u16 r4)
 have u4 := Kd.R_set u3 b3 (by decide) 3 (.int .u16 r4)
 have t4 := Kd.R_set t3 b3 (by decide) 3 (.int .u16 r4)
 clear b3 e3 l3_ u3 t3
 have b5 := blk_put (cs' := #[.int .u8 r1, .int .u8 r2, .int .u8 r3, .int .u16 r4, .int .u8 r5, .int .u16 0, .int .u32 0, .int .u32 0, .slice none 0 0, .slice none 0 0]) b4 4 (.int .u8 r5) rfl
 have e5 := blk_far e4 (p := ⟨gp, 4, none⟩) hneg (.int .u8 r5)
 have l5_ := Below.setCell (p := ⟨gp, 4, none⟩) l4_ GP.out (.int .u8 r5)
 have u5 := Kd.R_set u4 b4 (by decide) 4 (.int .u8 r5)
 have t5 := Kd.R_set t4 b4 (by decide) 4 (.int .u8 r5)
 clear b4 e4 l4_ u4 t4
 have b6 := blk_put (cs' := #[.int .u8 r1, .int .u8 r2, .int .u8 r3, .int .u16 r4, .int .u8 r5, .int .u16 r6, .int .u32 0, .int .u32 0, .slice none 0 0, .slice none 0 0]) b5 5 (.int .u16 r6) rfl
 have e6 := blk_far e5 (p := ⟨gp, 5, none⟩) hneg (.int .u16 r6)
 have l6_ := Below.setCell (p := ⟨gp, 5, none⟩) l5_ GP.out (.int .u16 r6)
 have u6 := Kd.R_set u5 b5 (by decide) 5 (.int .u16 r6)
 have t6 := Kd.R_set t5 b5 (by decide) 5 (.int .u16 r6)
 clear b5 e5 l5_ u5 t5
 have b7 := blk_put (cs' := #[.int .u8 r1, .int .u8 r2, .int .u8 r3, .int .u16 r4, .int .u8 r5, .int .u16 r6, .int .u32 r7, .int .u32 0, .slice none 0 0, .slice none 0 0]) b6 6 (.int .u32 r7) rfl
 have e7 := blk_far e6 (p := ⟨gp, 6, none⟩) hneg (.int .u32 r7)
 have l7_ := Below.setCell (p := ⟨gp, 6, none⟩) l6_ GP.out (.int .u32 r7)
 have u7 := Kd.R_set u6 b6 (by decide) 6 (.int .u32 r7)
 have t7 := Kd.R_set t6 b6 (by decide) 6 (.int .u32 r7)
 clear b6 e6 l6_ u6 t6
 have b8 := blk_put (cs' := #[.int .u8 r1, .int .u8 r2, .int .u8 r3, .int .u16 r4, .int .u8 r5, .int .u16 r6, .int .u32 r7, .int .u32 r8, .slice none 0 0, .slice none 0 0]) b7 7 (.int .u32 r8) rfl
 have e8 := blk_far e7 (p := ⟨gp, 7, none⟩) hneg (.int .u32 r8)
 have l8_ := Below.setCell (p := ⟨gp, 7, none⟩) l7_ GP.out (.int .u32 r8)
 have u8 := Kd.R_set u7 b7 (by decide) 7 (.int .u32 r8)
 have t8 := Kd.R_set t7 b7 (by decide) 7 (.int .u32 r8)
 clear b7 e7 l7_ u7 t7
 have b9 := blk_put (cs' := #[.int .u8 r1, .int .u8 r2, .int .u8 r3, .int .u16 r4, .int .u8 r5, .int .u16 r6, .int .u32 r7, .int .u32 r8, .slice B8 r9.length d8, .slice none 0 0]) b8 8 (.slice B8 r9.length d8) rfl
 have e9 := blk_far e8 (p := ⟨gp, 8, none⟩) hneg (.slice B8 r9.length d8)
 have l9_ := Below.setCell (p := ⟨gp, 8, none⟩) l8_ GP.out (.slice B8 r9.length d8)
 have u9 := Kd.R_set u8 b8 (by decide) 8 (.slice B8 r9.length d8)
 have t9 := Kd.R_set t8 b8 (by decide) 8 (.slice B8 r9.length d8)
 clear b8 e8 l8_ u8 t8
 have b10 := blk_put (cs' := #[.int .u8 r1, .int .u8 r2, .int .u8 r3, .int .u16 r4, .int .u8 r5, .int .u16 r6, .int .u32 r7, .int .u32 r8, .slice B8 r9.length d8, .slice B9 r10.length d9]) b9 9 (.slice B9 r10.length d9) rfl
 have e10 := blk_far e9 (p := ⟨gp, 9, none⟩) hneg (.slice B9 r10.length d9)
 have l10_ := Below.setCell (p := ⟨gp, 9, none⟩) l9_ GP.out (.slice B9 r10.length d9)
 have u10 := Kd.R_set u9 b9 (by decide) 9 (.slice B9 r10.length d9)
 have t10 := Kd.R_set t9 b9 (by decide) 9 (.slice B9 r10.length d9)
 clear b9 e9 l9_ u9 t9
 have b11 := blk_far b10 (p := ⟨ge, 0, none⟩) hnge (.int .i64 0)
 have e11 := blk_put (cs' := #[.int .i64 0]) e10 0 (.int .i64 0) rfl
 have l11_ := Below.setCell (p := ⟨ge, 0, none⟩) l10_ GE.out (.int .i64 0)
 have u11 := Kd.R_set u10 e10 (by decide) 0 (.int .i64 0)
 have t11 := Kd.R_set t10 e10 (by decide) 0 (.int .i64 0)
 clear HP3 HE3 HB3 O8 O9 hse hfse
 show Leaves _ _ _ _ _ _ _
 refine leaves_cons (f := 94) (args := #[.pointer (some ⟨gp, 0, none⟩), .pointer (some ⟨ge, 0, none⟩)]) (by simp) (by simp [go_sem]) ?_
 refine (ip_Parse.catch_idle ⟨gp, 0, none⟩ ⟨ge, 0, none⟩ _).mono ?_
 rintro e u' w'' ⟨rfl, rfl, rfl⟩
 exact ⟨_, ip_Parse.told rfl rfl b11 rfl e11, _, _, rfl, Kd.R_lower u11 HS, Kd.R_lower t11 HS, l11_⟩
def ip_Parse.f (k : Nat) (l0 : List Int) : Option (Int × Int × Int × Int × Int × Int × Int × Int × List Int × List Int × Int) :=
 if (l0.length : Int) < 20 then some (0, 0, 0, 0, 0, 0, 0, 0, [], [], 20) else (ip_reader_two.f l0 2).bind fun t =>
 if (rd l0 0) / 16 = 4 ∧ (wrap64 (4 * (wrap64 (Go.bits .and .u8 (rd l0 0) 15)))) ≥ 20 ∧ (wrap64 (t)) ≥ (wrap64 (4 * (wrap64 (Go.bits .and .u8 (rd l0 0) 15)))) then
  if (l0.length : Int) < (wrap64 (t)) then some (0, 0, 0, 0, 0, 0, 0, 0, [], [], 20) else
  (sum_Add.f k 0 (l0.take ((wrap64 (4 * (wrap64 (Go.bits .and .u8 (rd l0 0) 15)))) : Int).toNat)).bind fun a => (sum_Fold.f k a).bind fun b =>
  if b = 65535 then (ip_reader_packet.f k l0).bind fun p => some (p.1, p.2.1, p.2.2.1, p.2.2.2.1, p.2.2.2.2.1, p.2.2.2.2.2.1, p.2.2.2.2.2.2.1, p.2.2.2.2.2.2.2.1, p.2.2.2.2.2.2.2.2.1, p.2.2.2.2.2.2.2.2.2, 0)
  else some (0, 0, 0, 0, 0, 0, 0, 0, [], [], 22)
 else some (0, 0, 0, 0, 0, 0, 0, 0, [], [], 21)
theorem ip_Parse.calls (k : Nat) (A0 : Option Addr) (c0 : Nat) (l0 : List Int) (r1 : Int) (r2 : Int) (r3 : Int) (r4 : Int) (r5 : Int) (r6 : Int) (r7 : Int) (r8 : Int) (r9 : List Int) (r10 : List Int) (r11 : Int) (w : World) (hr0 : Kd.C (Kd.int .u8) w A0 l0.length l0) (hc0 : l0.length ≤ c0) (h : ip_Parse.f k l0 = some (r1, r2, r3, r4, r5, r6, r7, r8, r9, r10, r11)) :
  Calls Try.prog 57 #[.slice A0 l0.length c0] w fun e w' => ∃ v8_ v9_ : Value, e = .returned (.tuple #[.agg #[.int .u8 r1, .int .u8 r2, .int .u8 r3, .int .u16 r4, .int .u8 r5, .int .u16 r6, .int .u32 r7, .int .u32 r8, v8_, v9_], .int .i64 r11]) ∧ Kd.R (Kd.int .u8) 5 w' w.heap.size (fun k_ => some k_ ≠ (v9_ : Value).ownBlock) v8_ r9 ∧ Kd.R (Kd.int .u8) 5 w' w.heap.size (fun k_ => some k_ ≠ (v8_ : Value).ownBlock) v9_ r10 ∧ Below w.heap.size w w' := by
 have fail : ∀ x : Int, (∀ W, Below w.heap.size w W → Calls Try.prog 95 #[.slice A0 l0.length c0] W fun e w' => e = .panicked [{ v := .iface 163 (.agg #[.int .i64 x]), recovered := false }] ∧ Below W.heap.size W w') → some (0, 0, 0, 0, 0, 0, 0, 0, ([] : List Int), ([] : List Int), x) = some (r1, r2, r3, r4, r5, r6, r7, r8, r9, r10, r11) →
   Calls Try.prog 57 #[.slice A0 l0.length c0] w fun e w' => ∃ v8_ v9_ : Value, e = .returned (.tuple #[.agg #[.int .u8 r1, .int .u8 r2, .int .u8 r3, .int .u16 r4, .int .u8 r5, .int .u16 r6, .int .u32 r7, .int .u32 r8, v8_, v9_], .int .i64 r11]) ∧ Kd.R (Kd.int .u8) 5 w' w.heap.size (fun k_ => some k_ ≠ (v9_ : Value).ownBlock) v8_ r9 ∧ Kd.R (Kd.int .u8) 5 w' w.heap.size (fun k_ => some k_ ≠ (v8_ : Value).ownBlock) v9_ r10 ∧ Below w.heap.size w w' := by
  intro x hp hx
  simp only [Option.some.injEq, Prod.mk.injEq] at hx
  obtain ⟨rfl, rfl, rfl, rfl, rfl, rfl, rfl, rfl, rfl, rfl, rfl⟩ := hx
  refine (ip_Parse.fail x A0 c0 l0.length w hp).mono ?_
  rintro e w' ⟨rfl, hb⟩
  exact ⟨_, _, rfl, Kd.R_nil _ _ _ _ _, Kd.R_nil _ _ _ _ _, hb⟩
 unfold ip_Parse.f at h
 by_cases c1 : (l0.length : Int) < 20
 ·rw [if_pos c1] at h
  exact fail 20 (fun W hW => ip_reader_packet.pan1 A0 c0 l0 W (Kd.C_below hr0 hW) hc0 c1) h
 ·rw [if_neg c1] at h
  obtain ⟨t, h2, h⟩ := Option.bind_eq_some_iff.mp h
  have c1' : (l0.length : Int) ≥ 20 := by omega
  by_cases c2 : (rd l0 0) / 16 = 4 ∧ (wrap64 (4 * (wrap64 (Go.bits .and .u8 (rd l0 0) 15)))) ≥ 20 ∧ (wrap64 (t)) ≥ (wrap64 (4 * (wrap64 (Go.bits .and .u8 (rd l0 0) 15))))
  ·rw [if_pos c2] at h
   by_cases c3 : (l0.length : Int) < (wrap64 (t))
   ·rw [if_pos c3] at h
    exact fail 20 (fun W hW => ip_reader_packet.pan3 t A0 c0 l0 W (Kd.C_below hr0 hW) hc0 c1' h2 c2 c3) h
   ·rw [if_neg c3] at h
    obtain ⟨a, ha, h⟩ := Option.bind_eq_some_iff.mp h
    obtain ⟨b, hb, h⟩ := Option.bind_eq_some_iff.mp h
    by_cases c4 : b = 65535
    ·rw [if_pos c4] at h
     obtain ⟨p, hp, h⟩ := Option.bind_eq_some_iff.mp h
     obtain ⟨p1, p2, p3, p4, p5, p6, p7, p8, p9, p10⟩ := p
     simp only [Option.some.injEq, Prod.mk.injEq] at h
     obtain ⟨rfl, rfl, rfl, rfl, rfl, rfl, rfl, rfl, rfl, rfl, rfl⟩ := h
     exact ip_Parse.done k A0 c0 l0 _ _ _ _ _ _ _ _ _ _ w hr0 hc0 hp
    ·rw [if_neg c4] at h
     exact fail 22 (fun W hW => ip_reader_packet.pan4 k t a b A0 c0 l0 W (Kd.C_below hr0 hW) hc0 c1' h2 c2 (by omega) ha hb c4) h
  ·rw [if_neg c2] at h
   exact fail 21 (fun W hW => ip_reader_packet.pan2 t A0 c0 l0 W (Kd.C_below hr0 hW) hc0 c1' h2 c2) h
def udp_Bytes.f (a0_0 : Int) (a0_1 : Int) (a0_2 : Int) (l0_3 : List Int) : Option (List Int × Int) := if (wrap64 (8 + (l0_3.length : Int))) > 65535 then (some (([] : List Int), 23)) else ((some (([(a0_0 / 256) % 256, (a0_0) % 256, (a0_1 / 256) % 256, (a0_1) % 256, ((wrap64 (8 + (l0_3.length : Int))) / 256) % 256, (wrap64 (8 + (l0_3.length : Int))) % 256, (a0_2 / 256) % 256, (a0_2) % 256] : List Int) : List Int)).bind fun y125 => (if y125.length + l0_3.length < 140737488355328 then (some ((y125 ++ l0_3), 0)) else (none)))
theorem udp_Bytes.calls (a0_0 : Int) (a0_1 : Int) (a0_2 : Int) (A0_3 : Option Addr) (c0_3 : Nat) (l0_3 : List Int) (r1 : List Int) (r2 : Int) (w : World) (hr0_3 : Kd.C (Kd.int .u8) w A0_3 l0_3.length l0_3) (hc0_3 : l0_3.length ≤ c0_3) (h : udp_Bytes.f a0_0 a0_1 a0_2 l0_3 = some (r1, r2)) :
  Calls Try.prog 108 #[.agg #[.int .u16 a0_0, .int .u16 a0_1, .int .u16 a0_2, .slice A0_3 l0_3.length c0_3]] w fun e w' => ∃ v0_ : Value, e = .returned (.tuple #[v0_, .int .i64 r2]) ∧ Kd.R (Kd.int .u8) 5 w' w.heap.size (fun _ => True) v0_ r1 ∧ Below w.heap.size w w' := by
 have hu83 := Try.underlying83
 have HR0_3 := Aside0.mk hr0_3
 have HC0_3 := Aside0.mk hc0_3
 clear hr0_3 hc0_3
 have HB := Aside0.mk (Below.refl w.heap.size w)
 have H : (if (wrap64 (8 + (l0_3.length : Int))) > 65535 then (some (([] : List Int), 23)) else ((some (([(a0_0 / 256) % 256, (a0_0) % 256, (a0_1 / 256) % 256, (a0_1) % 256, ((wrap64 (8 + (l0_3.length : Int))) / 256) % 256, (wrap64 (8 + (l0_3.length : Int))) % 256, (a0_2 / 256) % 256, (a0_2) % 256] : List Int) : List Int)).bind fun y125 => (if y125.length + l0_3.length < 140737488355328 then (some ((y125 ++ l0_3), 0)) else (none)))) = some (r1, r2) := h
 clear h
 by_cases c2 : (wrap64 (8 + (l0_3.length : Int))) > 65535
 ·rw [if_pos c2] at H
  have c2b0 : decide (65535 < (wrap64 (8 + (l0_3.length : Int)))) = true := decide_eq_true c2
  clear c2
  simp only [Option.some.injEq, Prod.mk.injEq] at H
  obtain ⟨rfl, rfl⟩ := H
  go_enter Try.func108, Try.ntmps108
  go_wp2_with (first | ((with_reducible refine gate_dst (N := 1) rfl ?_); refine box_event ?hg (N := 1) ?hd (cs := #[.int .u16 a0_0, .int .u16 a0_1, .int .u16 a0_2, .slice A0_3 l0_3.length c0_3]) (t := 83) ?hr ?_; (case hd => rfl); (case hg => rfl); (case hr => first | (go_simp; done) | (go_simp; rfl)); intro gb124 hg w3 hbox hb; have n0_ := Aside0.mk (below_step (bz HB) hb); have n1_ := Aside0.mk (hbox); have n2_ := Aside0.mk ((by rw [hg]; exact (below_size (bz HB)) : w.heap.size ≤ gb124)); have n3_ := Aside0.mk ((by rw [hg]; exact (below_size (bz HB)) : w.heap.size ≤ gb124)); clear HB; have HB := n0_; have BK124 := n1_; have GW124 := n2_; have GE124 := n3_; clear n0_ n1_ n2_ n3_; clear hb hbox hg; have hcz4_0 : w3.cell? ⟨gb124, 0, none⟩ = some (.int .u16 a0_0) := cz BK124.out 0 rfl; have hcz4_1 : w3.cell? ⟨gb124, 1, none⟩ = some (.int .u16 a0_1) := cz BK124.out 1 rfl; have hcz4_2 : w3.cell? ⟨gb124, 2, none⟩ = some (.int .u16 a0_2) := cz BK124.out 2 rfl; have hcz4_3 : w3.cell? ⟨gb124, 3, none⟩ = some (.slice A0_3 l0_3.length c0_3) := cz BK124.out 3 rfl; have hfz4_0 := blk_frozen BK124.out 0; have hfz4_1 := blk_frozen BK124.out 1; have hfz4_2 := blk_frozen BK124.out 2; have hfz4_3 := blk_frozen BK124.out 3))
  go_ret2
  exact ⟨_, by first | rfl | (simp [errW_none, errW_some] <;> rfl) | (simp [*, errW_none, errW_some] <;> rfl), by first | exact Kd.R_nil _ _ _ _ _ | exact Kd.N_nil _ _ _ _ _ | exact Kd.V_nil _ _ _ _ _ | exact Kd.Q_nil _ _ _ _ _ | exact Kd.S_nil _ _ _ _ _, bz HB⟩
 ·rw [if_neg c2] at H
  have c2b0 : decide (65535 < (wrap64 (8 + (l0_3.length : Int)))) = false := decide_eq_false c2
  clear c2
  obtain ⟨y125, hy125⟩ : ∃ y_ : List Int, y_ = (([(a0_0 / 256) % 256, (a0_0) % 256, (a0_1 / 256) % 256, (a0_1) % 256, ((wrap64 (8 + (l0_3.length : Int))) / 256) % 256, (wrap64 (8 + (l0_3.length : Int))) % 256, (a0_2 / 256) % 256, (a0_2) % 256] : List Int)) := ⟨_, rfl⟩
  replace H : (if y125.length + l0_3.length < 140737488355328 then (some ((y125 ++ l0_3), 0)) else (none)) = some (r1, r2) := by first | (rw [hy125]; with_reducible exact H) | (have H2_ := (Option.bind_some _ _).symm.trans H; rw [hy125]; with_reducible exact H2_) | (have H2_ := (Option.bind_some _ _).symm.trans H; with_reducible exact H2_) | with_reducible exact H | (rw [hy125]; exact H) | exact H
  have Ny125 := Aside0.mk hy125
  clear hy125
  by_cases c5 : y125.length + l0_3.length < 140737488355328
  ·rw [if_pos c5] at H
   have LMc5 := Aside0.mk c5
   clear c5
   obtain ⟨y128, hy128⟩ : ∃ y_ : List Int, y_ = (y125 ++ l0_3) := ⟨_, rfl⟩
   replace H : (some (y128, 0)) = some (r1, r2) := by first | (rw [hy128]; with_reducible exact H) | (have H2_ := (Option.bind_some _ _).symm.trans H; rw [hy128]; with_reducible exact H2_) | (have H2_ := (Option.bind_some _ _).symm.trans H; with_reducible exact H2_) | with_reducible exact H | (rw [hy128]; exact H) | exact H
   have Ny128 := Aside0.mk hy128
   clear hy128
   simp only [Option.some.injEq, Prod.mk.injEq] at H
   obtain ⟨rfl, rfl⟩ := H
   go_enter Try.func108, Try.ntmps108
   go_wp2_with (first | ((with_reducible refine gate_dst (N := 1) rfl ?_); refine box_event ?hg (N := 1) ?hd (cs := #[.int .u16 a0_0, .int .u16 a0_1, .int .u16 a0_2, .slice A0_3 l0_3.length c0_3]) (t := 83) ?hr ?_; (case hd => rfl); (case hg => rfl); (case hr => first | (go_simp; done) | (go_simp; rfl)); intro gb124 hg w6 hbox hb; have n0_ := Aside0.mk (below_step (bz HB) hb); have n1_ := Aside0.mk (hbox); have n2_ := Aside0.mk ((by rw [hg]; exact (below_size (bz HB)) : w.heap.size ≤ gb124)); have n3_ := Aside0.mk ((by rw [hg]; exact (below_size (bz HB)) : w.heap.size ≤ gb124)); clear HB; have HB := n0_; have BK124 := n1_; have GW124 := n2_; have GE124 := n3_; clear n0_ n1_ n2_ n3_; clear hb hbox hg; have hcz7_0 : w6.cell? ⟨gb124, 0, none⟩ = some (.int .u16 a0_0) := cz BK124.out 0 rfl; have hcz7_1 : w6.cell? ⟨gb124, 1, none⟩ = some (.int .u16 a0_1) := cz BK124.out 1 rfl; have hcz7_2 : w6.cell? ⟨gb124, 2, none⟩ = some (.int .u16 a0_2) := cz BK124.out 2 rfl; have hcz7_3 : w6.cell? ⟨gb124, 3, none⟩ = some (.slice A0_3 l0_3.length c0_3) := cz BK124.out 3 rfl; have hfz7_0 := blk_frozen BK124.out 0; have hfz7_1 := blk_frozen BK124.out 1; have hfz7_2 := blk_frozen BK124.out 2; have hfz7_3 := blk_frozen BK124.out 3) | ((with_reducible refine gate_dst (N := 37) rfl ?_); refine Kd.R_lit (Kd.int .u8) _ 5 ?hg (N := 37) ?hd (xs := ([(a0_0 / 256) % 256, (a0_0) % 256, (a0_1 / 256) % 256, (a0_1) % 256, ((wrap64 (8 + (l0_3.length : Int))) / 256) % 256, (wrap64 (8 + (l0_3.length : Int))) % 256, (a0_2 / 256) % 256, (a0_2) % 256] : List Int)) (inner := [.int .u8 ((a0_0 / 256) % 256), .int .u8 ((a0_0) % 256), .int .u8 ((a0_1 / 256) % 256), .int .u8 ((a0_1) % 256), .int .u8 (((wrap64 (8 + (l0_3.length : Int))) / 256) % 256), .int .u8 ((wrap64 (8 + (l0_3.length : Int))) % 256), .int .u8 ((a0_2 / 256) % 256), .int .u8 ((a0_2) % 256)]) (ok := fun _ => True) (okp := fun _ => True) ?hr ?hp (fun _ hk => hk) trivial (Below.refl _ _) (Nat.le_refl _) (by simp) ?_; (case hd => rfl); (case hg => rfl); (case hr => first | (go_simp; done) | (go_simp; simp only [IntKind.wrap_u8, IntKind.wrap_u16, IntKind.wrap_u32]; done) | (go_simp; rfl)); (case hp => exact (Reps.one (show Kd.M (Kd.int .u8) _ _ _ ((a0_0 / 256) % 256) [.int .u8 ((a0_0 / 256) % 256)] from rfl) (Reps.one (show Kd.M (Kd.int .u8) _ _ _ ((a0_0) % 256) [.int .u8 ((a0_0) % 256)] from rfl) (Reps.one (show Kd.M (Kd.int .u8) _ _ _ ((a0_1 / 256) % 256) [.int .u8 ((a0_1 / 256) % 256)] from rfl) (Reps.one (show Kd.M (Kd.int .u8) _ _ _ ((a0_1) % 256) [.int .u8 ((a0_1) % 256)] from rfl) (Reps.one (show Kd.M (Kd.int .u8) _ _ _ (((wrap64 (8 + (l0_3.length : Int))) / 256) % 256) [.int .u8 (((wrap64 (8 + (l0_3.length : Int))) / 256) % 256)] from rfl) (Reps.one (show Kd.M (Kd.int .u8) _ _ _ ((wrap64 (8 + (l0_3.length : Int))) % 256) [.int .u8 ((wrap64 (8 + (l0_3.length : Int))) % 256)] from rfl) (Reps.one (show Kd.M (Kd.int .u8) _ _ _ ((a0_2 / 256) % 256) [.int .u8 ((a0_2 / 256) % 256)] from rfl) (Reps.one (show Kd.M (Kd.int .u8) _ _ _ ((a0_2) % 256) [.int .u8 ((a0_2) % 256)] from rfl) (Reps.none _ _)))))))))); intro v126 w8 ho9 hb hg_ hnew_; clear hg_ hnew_; (first | rw [← Ny125.out] at ho9 | (simp only [Int.reduceToNat] at ho9; rw [← Ny125.out] at ho9)); have n0_ := Aside0.mk (Kd.R_lower ho9 (below_size (bz HB))); have n1_ := Aside0.mk (blk_below (kz BK124) hb); have n2_ := Aside0.mk (below_step (bz HB) hb); clear BK124; clear HB; have HO127 := n0_; have BK124 := n1_; have HB := n2_; clear n0_ n1_ n2_; clear hb ho9; have hcz10_0 : w8.cell? ⟨gb124, 0, none⟩ = some (.int .u16 a0_0) := cz BK124.out 0 rfl; have hcz10_1 : w8.cell? ⟨gb124, 1, none⟩ = some (.int .u16 a0_1) := cz BK124.out 1 rfl; have hcz10_2 : w8.cell? ⟨gb124, 2, none⟩ = some (.int .u16 a0_2) := cz BK124.out 2 rfl; have hcz10_3 : w8.cell? ⟨gb124, 3, none⟩ = some (.slice A0_3 l0_3.length c0_3) := cz BK124.out 3 rfl; have hfz10_0 := blk_frozen BK124.out 0; have hfz10_1 := blk_frozen BK124.out 1; have hfz10_2 := blk_frozen BK124.out 2; have hfz10_3 := blk_frozen BK124.out 3) | ((with_reducible refine gate_builtin (b := .append) (xs := #[.tmp 37, .tmp 39]) rfl ?_); at_builtin; refine Kd.R_append_rows (Kd.int .u8) (w0 := w) w.heap.size rfl (.tmp 37) (.tmp 39) 23 5 (.int .u8 0) 1 rfl Try.underlying23 info5 rfl (by decide) (by omega) v126 y125 l0_3 _ _ _ (fun _ => True) (fun _ => False) rfl rfl ?aO ?aR (fun _ _ h => h) (fun _ h => h.elim) ?aF ?aB ?aS ?aL ?_; (case aR => exact Kd.C_below HR0_3.out (bz HB)); (case aB => exact bz HB); (case aF => exact (fun _ _ => trivial)); (case aO => exact (Kd.rz HO127)); (case aS => exact (below_size (bz HB))); (case aL => have := LMc5.out; omega); intro v129 w11 ho hb hg hat; rw [← Ny128.out] at ho; have n0_ := Aside0.mk (blk_grown (kz BK124) hg (Kd.R_ne HO127.out BK124.out (by decide))); have n1_ := Aside0.mk (hb); have n2_ := Aside0.mk (ho); clear BK124; clear HB; clear HO127; have BK124 := n0_; have HB := n1_; have HO130 := n2_; clear n0_ n1_ n2_; clear ho hb hg hat))
   go_ret2
   exact ⟨_, by first | rfl | (simp [errW_none, errW_some] <;> rfl) | (simp [*, errW_none, errW_some] <;> rfl), by (with_reducible repeat (first | apply Kd.R_alloc | apply Kd.R_drewN | apply Kd.R_drew)); exact HO130.out, bz HB⟩
  ·rw [if_neg c5] at H
   exact absurd H (by simp)
def sum_Pseudo.f (k : Nat) (a0 : Int) (a1 : Int) (a2 : Int) (a3 : Int) : Option (Int) := (sum_Fold.f k (((a0 / 65536) + (Go.bits .and .u32 a0 65535) + (a1 / 65536) + (Go.bits .and .u32 a1 65535) + (a2) + (IntKind.u16.wrap (a3))) % 4294967296)).bind fun t261 => (some ((t261) % 4294967296))
theorem sum_Pseudo.calls (k : Nat) (a0 : Int) (a1 : Int) (a2 : Int) (a3 : Int) (r : Int) (w : World) (h : sum_Pseudo.f k a0 a1 a2 a3 = some r) :
  Calls Try.prog 121 #[.int .u32 a0, .int .u32 a1, .int .u8 a2, .int .i64 a3] w fun e w' => e = .returned (.int .u32 r) ∧ Drawn0 w w' := by
 have H : ((sum_Fold.f k (((a0 / 65536) + (Go.bits .and .u32 a0 65535) + (a1 / 65536) + (Go.bits .and .u32 a1 65535) + (a2) + (IntKind.u16.wrap (a3))) % 4294967296)).bind fun t261 => (some ((t261) % 4294967296))) = some r := h
 clear h
 replace H := Option.bind_eq_some_iff.mp H
 obtain ⟨t261, A50, H⟩ := H
 replace H : (some ((t261) % 4294967296)) = some r := H
 have A5 := Aside0.mk A50
 clear A50
 obtain rfl := Option.some.inj H
 go_enter Try.func121, Try.ntmps121
 go_wp2_with (first | ((with_reducible refine gate_callee (f := 115) rfl ?_); refine gL 27 Try.func115 #[.int .u32 (((a0 / 65536) + (Go.bits .and .u32 a0 65535) + (a1 / 65536) + (Go.bits .and .u32 a1 65535) + (a2) + (IntKind.u16.wrap (a3))) % 4294967296)] ?_; (with_reducible refine (sum_Fold.calls k (((a0 / 65536) + (Go.bits .and .u32 a0 65535) + (a1 / 65536) + (Go.bits .and .u32 a1 65535) + (a2) + (IntKind.u16.wrap (a3))) % 4294967296) t261 _ A5.out).mono ?_); rintro e w' ⟨rfl, ⟨nd, rfl⟩⟩; refine ⟨_, rfl, ?_⟩))
 go_ret
 exact ⟨by first | rfl | (simp; done) | (simp [*]; done), by repeat (first | exact Drawn0.refl _ | apply Drawn0.step)⟩
def udp_total.f (k : Nat) (a0 : Int) (a1 : Int) (a2_0 : Int) (a2_1 : Int) (a2_2 : Int) (l2_3 : List Int) : Option (Int × Bool) := (udp_Bytes.f a2_0 a2_1 a2_2 l2_3).bind fun bt263 => ((sum_Pseudo.f k a0 a1 17 (bt263.1.length : Int)).bind fun t267 => ((sum_Add.f k t267 bt263.1).bind fun t268 => ((sum_Fold.f k t268).bind fun t269 => (some (t269, (bt263.2 == 0))))))
theorem udp_total.calls (k : Nat) (a0 : Int) (a1 : Int) (a2_0 : Int) (a2_1 : Int) (a2_2 : Int) (A2_3 : Option Addr) (c2_3 : Nat) (l2_3 : List Int) (r1 : Int) (r2 : Bool) (w : World) (hr2_3 : Kd.C (Kd.int .u8) w A2_3 l2_3.length l2_3) (hc2_3 : l2_3.length ≤ c2_3) (h : udp_total.f k a0 a1 a2_0 a2_1 a2_2 l2_3 = some (r1, r2)) :
  Calls Try.prog 98 #[.int .u32 a0, .int .u32 a1, .agg #[.int .u16 a2_0, .int .u16 a2_1, .int .u16 a2_2, .slice A2_3 l2_3.length c2_3]] w fun e w' => e = .returned (.tuple #[.int .u16 r1, .bool r2]) ∧ Below w.heap.size w w' := by
 have hu83 := Try.underlying83
 have HR2_3 := Aside0.mk hr2_3
 have HC2_3 := Aside0.mk hc2_3
 clear hr2_3 hc2_3
 have HB := Aside0.mk (Below.refl w.heap.size w)
 have H : ((udp_Bytes.f a2_0 a2_1 a2_2 l2_3).bind fun bt263 => ((sum_Pseudo.f k a0 a1 17 (bt263.1.length : Int)).bind fun t267 => ((sum_Add.f k t267 bt263.1).bind fun t268 => ((sum_Fold.f k t268).bind fun t269 => (some (t269, (bt263.2 == 0))))))) = some (r1, r2) := h
 clear h
 replace H := Option.bind_eq_some_iff.mp H
 obtain ⟨⟨t263, t266⟩, A40, H⟩ := H
 replace H : ((sum_Pseudo.f k a0 a1 17 (t263.length : Int)).bind fun t267 => ((sum_Add.f k t267 t263).bind fun t268 => ((sum_Fold.f k t268).bind fun t269 => (some (t269, (t266 == 0)))))) = some (r1, r2) := H
 have A4 := Aside0.mk A40
 clear A40
 replace H := Option.bind_eq_some_iff.mp H
 obtain ⟨t267, A50, H⟩ := H
 replace H : ((sum_Add.f k t267 t263).bind fun t268 => ((sum_Fold.f k t268).bind fun t269 => (some (t269, (t266 == 0))))) = some (r1, r2) := H
 have A5 := Aside0.mk A50
 clear A50
 replace H := Option.bind_eq_some_iff.mp H
 obtain ⟨t268, A60, H⟩ := H
 replace H : ((sum_Fold.f k t268).bind fun t269 => (some (t269, (t266 == 0)))) = some (r1, r2) := H
 have A6 := Aside0.mk A60
 clear A60
 replace H := Option.bind_eq_some_iff.mp H
 obtain ⟨t269, A70, H⟩ := H
 replace H : (some (t269, (t266 == 0))) = some (r1, r2) := H
 have A7 := Aside0.mk A70
 clear A70
 simp only [Option.some.injEq, Prod.mk.injEq] at H
 obtain ⟨rfl, rfl⟩ := H
 go_enter Try.func98, Try.ntmps98
 go_wp2_with (first | ((with_reducible refine gate_dst (N := 5) rfl ?_); refine box_event ?hg (N := 5) ?hd (cs := #[.int .u16 a2_0, .int .u16 a2_1, .int .u16 a2_2, .slice A2_3 l2_3.length c2_3]) (t := 83) ?hr ?_; (case hd => rfl); (case hg => rfl); (case hr => first | (go_simp; done) | (go_simp; rfl)); intro gb262 hg w8 hbox hb; have n0_ := Aside0.mk (below_step (bz HB) hb); have n1_ := Aside0.mk (hbox); have n2_ := Aside0.mk ((by rw [hg]; exact (below_size (bz HB)) : w.heap.size ≤ gb262)); have n3_ := Aside0.mk ((by rw [hg]; exact (below_size (bz HB)) : w.heap.size ≤ gb262)); clear HB; have HB := n0_; have BK262 := n1_; have GW262 := n2_; have GE262 := n3_; clear n0_ n1_ n2_ n3_; clear hb hbox hg; have hcz9_0 : w8.cell? ⟨gb262, 0, none⟩ = some (.int .u16 a2_0) := cz BK262.out 0 rfl; have hcz9_1 : w8.cell? ⟨gb262, 1, none⟩ = some (.int .u16 a2_1) := cz BK262.out 1 rfl; have hcz9_2 : w8.cell? ⟨gb262, 2, none⟩ = some (.int .u16 a2_2) := cz BK262.out 2 rfl; have hcz9_3 : w8.cell? ⟨gb262, 3, none⟩ = some (.slice A2_3 l2_3.length c2_3) := cz BK262.out 3 rfl; have hfz9_0 := blk_frozen BK262.out 0; have hfz9_1 := blk_frozen BK262.out 1; have hfz9_2 := blk_frozen BK262.out 2; have hfz9_3 := blk_frozen BK262.out 3) | ((with_reducible refine gate_callee (f := 108) rfl ?_); refine gL 12 Try.func108 #[.agg #[.int .u16 a2_0, .int .u16 a2_1, .int .u16 a2_2, .slice A2_3 l2_3.length c2_3]] ?_; (with_reducible refine (udp_Bytes.calls a2_0 a2_1 a2_2 _ _ l2_3 t263 t266 _ ?side1 ?side2 A4.out).mono ?_); (case side1 => exact Kd.C_below HR2_3.out (bz HB)); (case side2 => exact HC2_3.out); rintro e w10 ⟨v264, rfl, ho0, hb⟩; refine ⟨_, rfl, ?_⟩; have n0_ := Aside0.mk (Kd.R_lower ho0 (below_size (bz HB))); have n1_ := Aside0.mk (blk_below (kz BK262) hb); have n2_ := Aside0.mk (below_step (bz HB) hb); clear BK262; clear HB; have HO265 := n0_; have BK262 := n1_; have HB := n2_; clear n0_ n1_ n2_; (try clear hb); (try clear hb2); (try clear hk); (try clear hi); (try clear ho0); obtain ⟨Ao11, co11, eo11⟩ := Kd.R_slice HO265.out; subst eo11) | ((with_reducible refine gate_callee (f := 121) rfl ?_); refine gL 19 Try.func121 #[.int .u32 a0, .int .u32 a1, .int .u8 17, .int .i64 (t263.length : Int)] ?_; (with_reducible refine (sum_Pseudo.calls k a0 a1 17 (t263.length : Int) t267 _ A5.out).mono ?_); rintro e w' ⟨rfl, ⟨nd, rfl⟩⟩; refine ⟨_, rfl, ?_⟩) | ((with_reducible refine gate_callee (f := 116) rfl ?_); refine gL 21 Try.func116 #[.int .u32 t267, .slice Ao11 t263.length co11] ?_; (with_reducible refine (sum_Add.calls k t267 _ _ t263 t268 _ ?side1 ?side2 A6.out).mono ?_); (case side1 => repeat (first | exact (Kd.R_reads' HO265.out).2.2 | (with_reducible refine Kd.C_alloc ?_ _) | (with_reducible refine Kd.C_drewN ?_ _) | (with_reducible refine Kd.C_drew ?_))); (case side2 => exact (Kd.R_reads' HO265.out).2.1); rintro e w12 ⟨rfl, hb⟩; refine ⟨_, rfl, ?_⟩; have n0_ := Aside0.mk (Kd.R_below (Kd.rz HO265) hb); have n1_ := Aside0.mk (blk_below (kz BK262) hb); have n2_ := Aside0.mk (below_step (bz HB) hb); clear HO265; clear BK262; clear HB; have HO265 := n0_; have BK262 := n1_; have HB := n2_; clear n0_ n1_ n2_; (try clear hb); (try clear hb2); (try clear hk); (try clear hi)) | ((with_reducible refine gate_callee (f := 115) rfl ?_); refine gL 22 Try.func115 #[.int .u32 t268] ?_; (with_reducible refine (sum_Fold.calls k t268 t269 _ A7.out).mono ?_); rintro e w' ⟨rfl, ⟨nd, rfl⟩⟩; refine ⟨_, rfl, ?_⟩))
 go_ret2
 exact ⟨by first | rfl | (simp [errW_none, errW_some] <;> rfl) | (simp [*, errW_none, errW_some] <;> rfl), bz HB⟩
def udp_Right.f (k : Nat) (a0 : Int) (a1 : Int) (a2_0 : Int) (a2_1 : Int) (a2_2 : Int) (l2_3 : List Int) : Option (Bool) := if a2_2 = 0 then (some true) else ((udp_total.f k a0 a1 a2_0 a2_1 a2_2 l2_3).bind fun bt271 => (if bt271.2 = true then (some (bt271.1 == 65535)) else (some false)))
theorem udp_Right.calls (k : Nat) (a0 : Int) (a1 : Int) (a2_0 : Int) (a2_1 : Int) (a2_2 : Int) (A2_3 : Option Addr) (c2_3 : Nat) (l2_3 : List Int) (r : Bool) (w : World) (hr2_3 : Kd.C (Kd.int .u8) w A2_3 l2_3.length l2_3) (hc2_3 : l2_3.length ≤ c2_3) (h : udp_Right.f k a0 a1 a2_0 a2_1 a2_2 l2_3 = some r) :
  Calls Try.prog 59 #[.int .u32 a0, .int .u32 a1, .agg #[.int .u16 a2_0, .int .u16 a2_1, .int .u16 a2_2, .slice A2_3 l2_3.length c2_3]] w fun e w' => e = .returned (.bool r) ∧ Below w.heap.size w w' := by
 have hu83 := Try.underlying83
 have HR2_3 := Aside0.mk hr2_3
 have HC2_3 := Aside0.mk hc2_3
 clear hr2_3 hc2_3
 have HB := Aside0.mk (Below.refl w.heap.size w)
 have H : (if a2_2 = 0 then (some true) else ((udp_total.f k a0 a1 a2_0 a2_1 a2_2 l2_3).bind fun bt271 => (if bt271.2 = true then (some (bt271.1 == 65535)) else (some false)))) = some r := h
 clear h
 by_cases c4 : a2_2 = 0
 ·rw [if_pos c4] at H
  have c4b0 : (a2_2 == 0) = true := beq_iff_eq.mpr c4
  have c4b1 : (a2_2 != 0) = false := bne_eq_false_iff_eq.mpr c4
  clear c4
  obtain rfl := Option.some.inj H
  go_enter Try.func59, Try.ntmps59
  go_wp2_with (first | ((with_reducible refine gate_dst (N := 5) rfl ?_); refine box_event ?hg (N := 5) ?hd (cs := #[.int .u16 a2_0, .int .u16 a2_1, .int .u16 a2_2, .slice A2_3 l2_3.length c2_3]) (t := 83) ?hr ?_; (case hd => rfl); (case hg => rfl); (case hr => first | (go_simp; done) | (go_simp; rfl)); intro gb270 hg w5 hbox hb; have n0_ := Aside0.mk (below_step (bz HB) hb); have n1_ := Aside0.mk (hbox); have n2_ := Aside0.mk ((by rw [hg]; exact (below_size (bz HB)) : w.heap.size ≤ gb270)); have n3_ := Aside0.mk ((by rw [hg]; exact (below_size (bz HB)) : w.heap.size ≤ gb270)); clear HB; have HB := n0_; have BK270 := n1_; have GW270 := n2_; have GE270 := n3_; clear n0_ n1_ n2_ n3_; clear hb hbox hg; have hcz6_0 : w5.cell? ⟨gb270, 0, none⟩ = some (.int .u16 a2_0) := cz BK270.out 0 rfl; have hcz6_1 : w5.cell? ⟨gb270, 1, none⟩ = some (.int .u16 a2_1) := cz BK270.out 1 rfl; have hcz6_2 : w5.cell? ⟨gb270, 2, none⟩ = some (.int .u16 a2_2) := cz BK270.out 2 rfl; have hcz6_3 : w5.cell? ⟨gb270, 3, none⟩ = some (.slice A2_3 l2_3.length c2_3) := cz BK270.out 3 rfl; have hfz6_0 := blk_frozen BK270.out 0; have hfz6_1 := blk_frozen BK270.out 1; have hfz6_2 := blk_frozen BK270.out 2; have hfz6_3 := blk_frozen BK270.out 3))
  go_ret
  exact ⟨by first | rfl | (simp [errW_none, errW_some] <;> rfl) | (simp [*, errW_none, errW_some] <;> rfl), bz HB⟩
 ·rw [if_neg c4] at H
  have c4b0 : (a2_2 == 0) = false := beq_eq_false_iff_ne.mpr c4
  have c4b1 : (a2_2 != 0) = true := bne_iff_ne.mpr c4
  replace H := Option.bind_eq_some_iff.mp H
  obtain ⟨⟨t271, t272⟩, A70, H⟩ := H
  replace H : (if t272 = true then (some (t271 == 65535)) else (some false)) = some r := H
  have A7 := Aside0.mk A70
  clear A70
  by_cases c8 : t272 = true
  ·subst c8
   have H1 : (some (t271 == 65535)) = some r := by rw [if_pos rfl] at H; exact H
   clear H
   have H := H1
   clear H1
   obtain rfl := Option.some.inj H
   go_enter Try.func59, Try.ntmps59
   go_wp2_with (first | ((with_reducible refine gate_dst (N := 5) rfl ?_); refine box_event ?hg (N := 5) ?hd (cs := #[.int .u16 a2_0, .int .u16 a2_1, .int .u16 a2_2, .slice A2_3 l2_3.length c2_3]) (t := 83) ?hr ?_; (case hd => rfl); (case hg => rfl); (case hr => first | (go_simp; done) | (go_simp; rfl)); intro gb270 hg w9 hbox hb; have n0_ := Aside0.mk (below_step (bz HB) hb); have n1_ := Aside0.mk (hbox); have n2_ := Aside0.mk ((by rw [hg]; exact (below_size (bz HB)) : w.heap.size ≤ gb270)); have n3_ := Aside0.mk ((by rw [hg]; exact (below_size (bz HB)) : w.heap.size ≤ gb270)); clear HB; have HB := n0_; have BK270 := n1_; have GW270 := n2_; have GE270 := n3_; clear n0_ n1_ n2_ n3_; clear hb hbox hg; have hcz10_0 : w9.cell? ⟨gb270, 0, none⟩ = some (.int .u16 a2_0) := cz BK270.out 0 rfl; have hcz10_1 : w9.cell? ⟨gb270, 1, none⟩ = some (.int .u16 a2_1) := cz BK270.out 1 rfl; have hcz10_2 : w9.cell? ⟨gb270, 2, none⟩ = some (.int .u16 a2_2) := cz BK270.out 2 rfl; have hcz10_3 : w9.cell? ⟨gb270, 3, none⟩ = some (.slice A2_3 l2_3.length c2_3) := cz BK270.out 3 rfl; have hfz10_0 := blk_frozen BK270.out 0; have hfz10_1 := blk_frozen BK270.out 1; have hfz10_2 := blk_frozen BK270.out 2; have hfz10_3 := blk_frozen BK270.out 3) | ((with_reducible refine gate_callee (f := 98) rfl ?_); refine gL 16 Try.func98 #[.int .u32 a0, .int .u32 a1, .agg #[.int .u16 a2_0, .int .u16 a2_1, .int .u16 a2_2, .slice A2_3 l2_3.length c2_3]] ?_; (with_reducible refine (udp_total.calls k a0 a1 a2_0 a2_1 a2_2 _ _ l2_3 t271 true _ ?side1 ?side2 A7.out).mono ?_); (case side1 => exact Kd.C_below HR2_3.out (bz HB)); (case side2 => exact HC2_3.out); rintro e w11 ⟨rfl, hb⟩; refine ⟨_, rfl, ?_⟩; have n0_ := Aside0.mk (blk_below (kz BK270) hb); have n1_ := Aside0.mk (below_step (bz HB) hb); clear BK270; clear HB; have BK270 := n0_; have HB := n1_; clear n0_ n1_; (try clear hb); (try clear hb2); (try clear hk); (try clear hi)))
   go_ret
   exact ⟨by first | rfl | (simp [errW_none, errW_some] <;> rfl) | (simp [*, errW_none, errW_some] <;> rfl), bz HB⟩
  ·replace c8 := Bool.eq_false_iff.mpr c8
   subst c8
   have H1 : (some false) = some r := by rw [if_neg (show ¬ (false = true) by decide)] at H; exact H
   clear H
   have H := H1
   clear H1
   obtain rfl := Option.some.inj H
   go_enter Try.func59, Try.ntmps59
   go_wp2_with (first | ((with_reducible refine gate_dst (N := 5) rfl ?_); refine box_event ?hg (N := 5) ?hd (cs := #[.int .u16 a2_0, .int .u16 a2_1, .int .u16 a2_2, .slice A2_3 l2_3.length c2_3]) (t := 83) ?hr ?_; (case hd => rfl); (case hg => rfl); (case hr => first | (go_simp; done) | (go_simp; rfl)); intro gb270 hg w12 hbox hb; have n0_ := Aside0.mk (below_step (bz HB) hb); have n1_ := Aside0.mk (hbox); have n2_ := Aside0.mk ((by rw [hg]; exact (below_size (bz HB)) : w.heap.size ≤ gb270)); have n3_ := Aside0.mk ((by rw [hg]; exact (below_size (bz HB)) : w.heap.size ≤ gb270)); clear HB; have HB := n0_; have BK270 := n1_; have GW270 := n2_; have GE270 := n3_; clear n0_ n1_ n2_ n3_; clear hb hbox hg; have hcz13_0 : w12.cell? ⟨gb270, 0, none⟩ = some (.int .u16 a2_0) := cz BK270.out 0 rfl; have hcz13_1 : w12.cell? ⟨gb270, 1, none⟩ = some (.int .u16 a2_1) := cz BK270.out 1 rfl; have hcz13_2 : w12.cell? ⟨gb270, 2, none⟩ = some (.int .u16 a2_2) := cz BK270.out 2 rfl; have hcz13_3 : w12.cell? ⟨gb270, 3, none⟩ = some (.slice A2_3 l2_3.length c2_3) := cz BK270.out 3 rfl; have hfz13_0 := blk_frozen BK270.out 0; have hfz13_1 := blk_frozen BK270.out 1; have hfz13_2 := blk_frozen BK270.out 2; have hfz13_3 := blk_frozen BK270.out 3) | ((with_reducible refine gate_callee (f := 98) rfl ?_); refine gL 16 Try.func98 #[.int .u32 a0, .int .u32 a1, .agg #[.int .u16 a2_0, .int .u16 a2_1, .int .u16 a2_2, .slice A2_3 l2_3.length c2_3]] ?_; (with_reducible refine (udp_total.calls k a0 a1 a2_0 a2_1 a2_2 _ _ l2_3 t271 false _ ?side1 ?side2 A7.out).mono ?_); (case side1 => exact Kd.C_below HR2_3.out (bz HB)); (case side2 => exact HC2_3.out); rintro e w14 ⟨rfl, hb⟩; refine ⟨_, rfl, ?_⟩; have n0_ := Aside0.mk (blk_below (kz BK270) hb); have n1_ := Aside0.mk (below_step (bz HB) hb); clear BK270; clear HB; have BK270 := n0_; have HB := n1_; clear n0_ n1_; (try clear hb); (try clear hb2); (try clear hk); (try clear hi)))
   go_ret
   exact ⟨by first | rfl | (simp [errW_none, errW_some] <;> rfl) | (simp [*, errW_none, errW_some] <;> rfl), bz HB⟩
def rewrite_datagram_right.f (k : Nat) (a0_0 : Int) (a0_1 : Int) (a0_2 : Int) (l0_3 : List Int) (a1_0 : Int) (a1_1 : Int) (a1_2 : Int) (a1_3 : Int) (a1_4 : Int) (a1_5 : Int) (a1_6 : Int) (a1_7 : Int) (l1_8 : List Int) (l1_9 : List Int) : Option (Bool) := (udp_Right.f k a1_6 a1_7 a0_0 a0_1 a0_2 l0_3).bind fun t579 => (some t579)
theorem rewrite_datagram_right.calls (k : Nat) (a0_0 : Int) (a0_1 : Int) (a0_2 : Int) (A0_3 : Option Addr) (c0_3 : Nat) (l0_3 : List Int) (a1_0 : Int) (a1_1 : Int) (a1_2 : Int) (a1_3 : Int) (a1_4 : Int) (a1_5 : Int) (a1_6 : Int) (a1_7 : Int) (A1_8 : Option Addr) (c1_8 : Nat) (l1_8 : List Int) (A1_9 : Option Addr) (c1_9 : Nat) (l1_9 : List Int) (r : Bool) (w : World) (hr0_3 : Kd.C (Kd.int .u8) w A0_3 l0_3.length l0_3) (hc0_3 : l0_3.length ≤ c0_3) (hr1_8 : Kd.C (Kd.int .u8) w A1_8 l1_8.length l1_8) (hc1_8 : l1_8.length ≤ c1_8) (hr1_9 : Kd.C (Kd.int .u8) w A1_9 l1_9.length l1_9) (hc1_9 : l1_9.length ≤ c1_9) (h : rewrite_datagram_right.f k a0_0 a0_1 a0_2 l0_3 a1_0 a1_1 a1_2 a1_3 a1_4 a1_5 a1_6 a1_7 l1_8 l1_9 = some r) :
  Calls Try.prog 156 #[.agg #[.int .u16 a0_0, .int .u16 a0_1, .int .u16 a0_2, .slice A0_3 l0_3.length c0_3], .agg #[.int .u8 a1_0, .int .u8 a1_1, .int .u8 a1_2, .int .u16 a1_3, .int .u8 a1_4, .int .u16 a1_5, .int .u32 a1_6, .int .u32 a1_7, .slice A1_8 l1_8.length c1_8, .slice A1_9 l1_9.length c1_9]] w fun e w' => e = .returned (.bool r) ∧ Below w.heap.size w w' := by
 have hu179 := Try.underlying179
 have hu73 := Try.underlying73
 have hu83 := Try.underlying83
 have HR0_3 := Aside0.mk hr0_3
 have HC0_3 := Aside0.mk hc0_3
 clear hr0_3 hc0_3
 have HR1_8 := Aside0.mk hr1_8
 have HC1_8 := Aside0.mk hc1_8
 clear hr1_8 hc1_8
 have HR1_9 := Aside0.mk hr1_9
 have HC1_9 := Aside0.mk hc1_9
 clear hr1_9 hc1_9
 have HB := Aside0.mk (Below.refl w.heap.size w)
 have H : ((udp_Right.f k a1_6 a1_7 a0_0 a0_1 a0_2 l0_3).bind fun t579 => (some t579)) = some r := h
 clear h
 replace H := Option.bind_eq_some_iff.mp H
 obtain ⟨t579, A30, H⟩ := H
 replace H : (some t579) = some r := H
 have A3 := Aside0.mk A30
 clear A30
 obtain rfl := Option.some.inj H
 go_enter Try.func156, Try.ntmps156
 go_wp2_with (first | ((with_reducible refine gate_dst (N := 2) rfl ?_); refine box_event ?hg (N := 2) ?hd (cs := #[.int .u16 a0_0, .int .u16 a0_1, .int .u16 a0_2, .slice A0_3 l0_3.length c0_3]) (t := 179) ?hr ?_; (case hd => rfl); (case hg => rfl); (case hr => first | (go_simp; done) | (go_simp; rfl)); intro gb577 hg w4 hbox hb; have n0_ := Aside0.mk (below_step (bz HB) hb); have n1_ := Aside0.mk (hbox); have n2_ := Aside0.mk ((by rw [hg]; exact (below_size (bz HB)) : w.heap.size ≤ gb577)); have n3_ := Aside0.mk ((by rw [hg]; exact (below_size (bz HB)) : w.heap.size ≤ gb577)); clear HB; have HB := n0_; have BK577 := n1_; have GW577 := n2_; have GE577 := n3_; clear n0_ n1_ n2_ n3_; clear hb hbox hg) | ((with_reducible refine gate_dst (N := 3) rfl ?_); refine box_event ?hg (N := 3) ?hd (cs := #[.int .u8 a1_0, .int .u8 a1_1, .int .u8 a1_2, .int .u16 a1_3, .int .u8 a1_4, .int .u16 a1_5, .int .u32 a1_6, .int .u32 a1_7, .slice A1_8 l1_8.length c1_8, .slice A1_9 l1_9.length c1_9]) (t := 73) ?hr ?_; (case hd => rfl); (case hg => rfl); (case hr => first | (go_simp; done) | (go_simp; rfl)); intro gb578 hg w5 hbox hb; have n0_ := Aside0.mk (blk_below (kz BK577) hb); have n1_ := Aside0.mk (below_step (bz HB) hb); have n2_ := Aside0.mk (hbox); have n3_ := Aside0.mk ((by rw [hg]; exact (below_size (bz HB)) : w.heap.size ≤ gb578)); have n4_ := Aside0.mk ((by rw [hg]; exact (below_size (bz HB)) : w.heap.size ≤ gb578)); have n5_ := Aside0.mk ((by rw [hg]; exact Nat.ne_of_lt (blk_lt (g := gb577) (o := .cells #[.int .u16 a0_0, .int .u16 a0_1, .int .u16 a0_2, .slice A0_3 l0_3.length c0_3] 179 (0, 0)) (kz BK577)) : gb577 ≠ gb578)); have n6_ := Aside0.mk ((by rw [hg]; exact Nat.ne_of_gt (blk_lt (g := gb577) (o := .cells #[.int .u16 a0_0, .int .u16 a0_1, .int .u16 a0_2, .slice A0_3 l0_3.length c0_3] 179 (0, 0)) (kz BK577)) : gb578 ≠ gb577)); clear BK577; clear HB; have BK577 := n0_; have HB := n1_; have BK578 := n2_; have GW578 := n3_; have GE578 := n4_; have NB577_578 := n5_; have NB578_577 := n6_; clear n0_ n1_ n2_ n3_ n4_ n5_ n6_; clear hb hbox hg; have hnb6 := NB578_577.out; have hnc6 := NB577_578.out; have hcz7_0 : w5.cell? ⟨gb578, 0, none⟩ = some (.int .u8 a1_0) := cz BK578.out 0 rfl; have hcz7_1 : w5.cell? ⟨gb578, 1, none⟩ = some (.int .u8 a1_1) := cz BK578.out 1 rfl; have hcz7_2 : w5.cell? ⟨gb578, 2, none⟩ = some (.int .u8 a1_2) := cz BK578.out 2 rfl; have hcz7_3 : w5.cell? ⟨gb578, 3, none⟩ = some (.int .u16 a1_3) := cz BK578.out 3 rfl; have hcz7_4 : w5.cell? ⟨gb578, 4, none⟩ = some (.int .u8 a1_4) := cz BK578.out 4 rfl; have hcz7_5 : w5.cell? ⟨gb578, 5, none⟩ = some (.int .u16 a1_5) := cz BK578.out 5 rfl; have hcz7_6 : w5.cell? ⟨gb578, 6, none⟩ = some (.int .u32 a1_6) := cz BK578.out 6 rfl; have hcz7_7 : w5.cell? ⟨gb578, 7, none⟩ = some (.int .u32 a1_7) := cz BK578.out 7 rfl; have hcz7_8 : w5.cell? ⟨gb578, 8, none⟩ = some (.slice A1_8 l1_8.length c1_8) := cz BK578.out 8 rfl; have hcz7_9 : w5.cell? ⟨gb578, 9, none⟩ = some (.slice A1_9 l1_9.length c1_9) := cz BK578.out 9 rfl; have hfz7_0 := blk_frozen BK578.out 0; have hfz7_1 := blk_frozen BK578.out 1; have hfz7_2 := blk_frozen BK578.out 2; have hfz7_3 := blk_frozen BK578.out 3; have hfz7_4 := blk_frozen BK578.out 4; have hfz7_5 := blk_frozen BK578.out 5; have hfz7_6 := blk_frozen BK578.out 6; have hfz7_7 := blk_frozen BK578.out 7; have hfz7_8 := blk_frozen BK578.out 8; have hfz7_9 := blk_frozen BK578.out 9; have hcz8_0 : w5.cell? ⟨gb577, 0, none⟩ = some (.int .u16 a0_0) := cz BK577.out 0 rfl; have hcz8_1 : w5.cell? ⟨gb577, 1, none⟩ = some (.int .u16 a0_1) := cz BK577.out 1 rfl; have hcz8_2 : w5.cell? ⟨gb577, 2, none⟩ = some (.int .u16 a0_2) := cz BK577.out 2 rfl; have hcz8_3 : w5.cell? ⟨gb577, 3, none⟩ = some (.slice A0_3 l0_3.length c0_3) := cz BK577.out 3 rfl; have hfz8_0 := blk_frozen BK577.out 0; have hfz8_1 := blk_frozen BK577.out 1; have hfz8_2 := blk_frozen BK577.out 2; have hfz8_3 := blk_frozen BK577.out 3) | ((with_reducible refine gate_callee (f := 59) rfl ?_); refine gL 11 Try.func59 #[.int .u32 a1_6, .int .u32 a1_7, .agg #[.int .u16 a0_0, .int .u16 a0_1, .int .u16 a0_2, .slice A0_3 l0_3.length c0_3]] ?_; (with_reducible refine (udp_Right.calls k a1_6 a1_7 a0_0 a0_1 a0_2 _ _ l0_3 t579 _ ?side1 ?side2 A3.out).mono ?_); (case side1 => exact Kd.C_below HR0_3.out (bz HB)); (case side2 => exact HC0_3.out); rintro e w9 ⟨rfl, hb⟩; refine ⟨_, rfl, ?_⟩; have n0_ := Aside0.mk (blk_below (kz BK577) hb); have n1_ := Aside0.mk (blk_below (kz BK578) hb); have n2_ := Aside0.mk (below_step (bz HB) hb); clear BK577; clear BK578; clear HB; have BK577 := n0_; have BK578 := n1_; have HB := n2_; clear n0_ n1_ n2_; (try clear hb); (try clear hb2); (try clear hk); (try clear hi)))
 go_ret
 exact ⟨by first | rfl | (simp [errW_none, errW_some] <;> rfl) | (simp [*, errW_none, errW_some] <;> rfl), bz HB⟩
def slices_Grow_byte_byte.f (l0 : List Int) (a1 : Int) : Option (List Int) := if 0 ≤ a1 then (if a1 < 70368744177664 then some [] else none) else none
mutual
def slices_Concat_byte_byte.l0 : Nat → List (List Int) → Int → List (List Int) → Int → Int → Option (List Int)
  | 0, _, _, _, _, _ => none
  | k + 1, x0, x3, x9, x10, x11 => if x11 < x10 then (if 0 ≤ x11 then (if x11 < (x9.length : Int) then (if (wrap64 (x3 + ((rd_L1 x9 x11).length : Int))) < 0 then (none) else (slices_Concat_byte_byte.l0 k x0 (wrap64 (x3 + ((rd_L1 x9 x11).length : Int))) x9 x10 (wrap64 (x11 + 1)))) else (none)) else (none)) else ((slices_Grow_byte_byte.f ([] : List Int) x3).bind fun t102 => (slices_Concat_byte_byte.l1 k t102 x0 (x0.length : Int) 0))
def slices_Concat_byte_byte.l1 : Nat → List Int → List (List Int) → Int → Int → Option (List Int)
  | 0, _, _, _, _ => none
  | k + 1, x6, x25, x26, x27 => if x27 < x26 then (if 0 ≤ x27 then (if x27 < (x25.length : Int) then (if x6.length + (rd_L1 x25 x27).length < 140737488355328 then (slices_Concat_byte_byte.l1 k (x6 ++ (rd_L1 x25 x27)) x25 x26 (wrap64 (x27 + 1))) else (none)) else (none)) else (none)) else (some x6)
end
def slices_Concat_byte_byte.f (k : Nat) (l0 : List (List Int)) : Option (List Int) := slices_Concat_byte_byte.l0 k l0 0 l0 (l0.length : Int) 0
mutual
def tcp_Bytes.j0 : Nat → Bool → Int → Int → Int → Int → Int → Int → Int → Int → List Int → List Int → Option (List Int × Int)
 | 0, _, _, _, _, _, _, _, _, _, _, _ => none
 | k + 1, x7, x581000, x581001, x581002, x581003, x581004, x581005, x581006, x581007, x581008, x581009 => if x7 = true then (some (([] : List Int), 21)) else (if (wrap64 ((wrap64 (20 + (x581008.length : Int))) + (x581009.length : Int))) > 65515 then (some (([] : List Int), 23)) else ((some (([x581002, x581003] : List Int) : List Int)).bind fun y584 => (tcp_Bytes.l0 k (([(x581000 / 256) % 256, (x581000) % 256, (x581001 / 256) % 256, (x581001) % 256] : List Int)) y584 (y584.length : Int) 0 x581000 x581001 x581002 x581003 x581004 x581005 x581006 x581007 x581008 x581009)))
def tcp_Bytes.l0 : Nat → List Int → List Int → Int → Int → Int → Int → Int → Int → Int → Int → Int → Int → List Int → List Int → Option (List Int × Int)
 | 0, _, _, _, _, _, _, _, _, _, _, _, _, _, _ => none
 | k + 1, x4, x48, x49, x50, x581000, x581001, x581002, x581003, x581004, x581005, x581006, x581007, x581008, x581009 => if x50 < x49 then (if 0 ≤ x50 then (if x50 < (x48.length : Int) then ((some (([((rd x48 x50) / 16777216) % 256, ((rd x48 x50) / 65536) % 256, ((rd x48 x50) / 256) % 256, (rd x48 x50) % 256] : List Int) : List Int)).bind fun y588 => (if x4.length + y588.length < 140737488355328 then (tcp_Bytes.l0 k (x4 ++ y588) x48 x49 (wrap64 (x50 + 1)) x581000 x581001 x581002 x581003 x581004 x581005 x581006 x581007 x581008 x581009) else (none))) else (none)) else (none)) else ((some (([((((wrap64 (20 + (x581008.length : Int))) % 256) / 4) * 16) % 256, x581004, (x581005 / 256) % 256, (x581005) % 256, (x581006 / 256) % 256, (x581006) % 256, (x581007 / 256) % 256, (x581007) % 256] : List Int) : List Int)).bind fun y594 => (if x4.length + y594.length < 140737488355328 then ((slices_Concat_byte_byte.f k (([(x4 ++ y594), x581008, x581009] : List (List Int)))).bind fun t603 => (some (t603, 0))) else (none)))
end
def tcp_Bytes.f (k : Nat) (a0_0 : Int) (a0_1 : Int) (a0_2 : Int) (a0_3 : Int) (a0_4 : Int) (a0_5 : Int) (a0_6 : Int) (a0_7 : Int) (l0_8 : List Int) (l0_9 : List Int) : Option (List Int × Int) := if ((l0_8.length : Int) % 4) = 0 then (tcp_Bytes.j0 k (decide ((l0_8.length : Int) > 40)) a0_0 a0_1 a0_2 a0_3 a0_4 a0_5 a0_6 a0_7 l0_8 l0_9) else (tcp_Bytes.j0 k true a0_0 a0_1 a0_2 a0_3 a0_4 a0_5 a0_6 a0_7 l0_8 l0_9)
def tcp_total.f (k : Nat) (a0 : Int) (a1 : Int) (a2_0 : Int) (a2_1 : Int) (a2_2 : Int) (a2_3 : Int) (a2_4 : Int) (a2_5 : Int) (a2_6 : Int) (a2_7 : Int) (l2_8 : List Int) (l2_9 : List Int) : Option (Int × Bool) := (tcp_Bytes.f k a2_0 a2_1 a2_2 a2_3 a2_4 a2_5 a2_6 a2_7 l2_8 l2_9).bind fun bt607 => ((sum_Pseudo.f k a0 a1 6 (bt607.1.length : Int)).bind fun t611 => ((sum_Add.f k t611 bt607.1).bind fun t612 => ((sum_Fold.f k t612).bind fun t613 => (some (t613, (bt607.2 == 0))))))
def icmp_Bytes.f (a0_0 : Int) (a0_1 : Int) (a0_2 : Int) (a0_3 : Int) (l0_4 : List Int) : Option (List Int × Int) := if (wrap64 (8 + (l0_4.length : Int))) > 65515 then (some (([] : List Int), 23)) else ((some (([a0_0, a0_1, (a0_2 / 256) % 256, (a0_2) % 256, (a0_3 / 16777216) % 256, (a0_3 / 65536) % 256, (a0_3 / 256) % 256, (a0_3) % 256] : List Int) : List Int)).bind fun y621 => (if y621.length + l0_4.length < 140737488355328 then (some ((y621 ++ l0_4), 0)) else (none)))
theorem icmp_Bytes.calls (a0_0 : Int) (a0_1 : Int) (a0_2 : Int) (a0_3 : Int) (A0_4 : Option Addr) (c0_4 : Nat) (l0_4 : List Int) (r1 : List Int) (r2 : Int) (w : World) (hr0_4 : Kd.C (Kd.int .u8) w A0_4 l0_4.length l0_4) (hc0_4 : l0_4.length ≤ c0_4) (h : icmp_Bytes.f a0_0 a0_1 a0_2 a0_3 l0_4 = some (r1, r2)) :
  Calls Try.prog 112 #[.agg #[.int .u8 a0_0, .int .u8 a0_1, .int .u16 a0_2, .int .u32 a0_3, .slice A0_4 l0_4.length c0_4]] w fun e w' => ∃ v0_ : Value, e = .returned (.tuple #[v0_, .int .i64 r2]) ∧ Kd.R (Kd.int .u8) 5 w' w.heap.size (fun _ => True) v0_ r1 ∧ Below w.heap.size w w' := by
 have hu101 := Try.underlying101
 have HR0_4 := Aside0.mk hr0_4
 have HC0_4 := Aside0.mk hc0_4
 clear hr0_4 hc0_4
 have HB := Aside0.mk (Below.refl w.heap.size w)
 have H : (if (wrap64 (8 + (l0_4.length : Int))) > 65515 then (some (([] : List Int), 23)) else ((some (([a0_0, a0_1, (a0_2 / 256) % 256, (a0_2) % 256, (a0_3 / 16777216) % 256, (a0_3 / 65536) % 256, (a0_3 / 256) % 256, (a0_3) % 256] : List Int) : List Int)).bind fun y621 => (if y621.length + l0_4.length < 140737488355328 then (some ((y621 ++ l0_4), 0)) else (none)))) = some (r1, r2) := h
 clear h
 by_cases c2 : (wrap64 (8 + (l0_4.length : Int))) > 65515
 ·rw [if_pos c2] at H
  have c2b0 : decide (65515 < (wrap64 (8 + (l0_4.length : Int)))) = true := decide_eq_true c2
  clear c2
  simp only [Option.some.injEq, Prod.mk.injEq] at H
  obtain ⟨rfl, rfl⟩ := H
  go_enter Try.func112, Try.ntmps112
  go_wp2_with (first | ((with_reducible refine gate_dst (N := 1) rfl ?_); refine box_event ?hg (N := 1) ?hd (cs := #[.int .u8 a0_0, .int .u8 a0_1, .int .u16 a0_2, .int .u32 a0_3, .slice A0_4 l0_4.length c0_4]) (t := 101) ?hr ?_; (case hd => rfl); (case hg => rfl); (case hr => first | (go_simp; done) | (go_simp; rfl)); intro gb620 hg w3 hbox hb; have n0_ := Aside0.mk (below_step (bz HB) hb); have n1_ := Aside0.mk (hbox); have n2_ := Aside0.mk ((by rw [hg]; exact (below_size (bz HB)) : w.heap.size ≤ gb620)); have n3_ := Aside0.mk ((by rw [hg]; exact (below_size (bz HB)) : w.heap.size ≤ gb620)); clear HB; have HB := n0_; have BK620 := n1_; have GW620 := n2_; have GE620 := n3_; clear n0_ n1_ n2_ n3_; clear hb hbox hg; have hcz4_0 : w3.cell? ⟨gb620, 0, none⟩ = some (.int .u8 a0_0) := cz BK620.out 0 rfl; have hcz4_1 : w3.cell? ⟨gb620, 1, none⟩ = some (.int .u8 a0_1) := cz BK620.out 1 rfl; have hcz4_2 : w3.cell? ⟨gb620, 2, none⟩ = some (.int .u16 a0_2) := cz BK620.out 2 rfl; have hcz4_3 : w3.cell? ⟨gb620, 3, none⟩ = some (.int .u32 a0_3) := cz BK620.out 3 rfl; have hcz4_4 : w3.cell? ⟨gb620, 4, none⟩ = some (.slice A0_4 l0_4.length c0_4) := cz BK620.out 4 rfl; have hfz4_0 := blk_frozen BK620.out 0; have hfz4_1 := blk_frozen BK620.out 1; have hfz4_2 := blk_frozen BK620.out 2; have hfz4_3 := blk_frozen BK620.out 3; have hfz4_4 := blk_frozen BK620.out 4))
  go_ret2
  exact ⟨_, by first | rfl | (simp [errW_none, errW_some] <;> rfl) | (simp [*, errW_none, errW_some] <;> rfl), by first | exact Kd.R_nil _ _ _ _ _ | exact Kd.N_nil _ _ _ _ _ | exact Kd.V_nil _ _ _ _ _ | exact Kd.Q_nil _ _ _ _ _ | exact Kd.S_nil _ _ _ _ _, bz HB⟩
 ·rw [if_neg c2] at H
  have c2b0 : decide (65515 < (wrap64 (8 + (l0_4.length : Int)))) = false := decide_eq_false c2
  clear c2
  obtain ⟨y621, hy621⟩ : ∃ y_ : List Int, y_ = (([a0_0, a0_1, (a0_2 / 256) % 256, (a0_2) % 256, (a0_3 / 16777216) % 256, (a0_3 / 65536) % 256, (a0_3 / 256) % 256, (a0_3) % 256] : List Int)) := ⟨_, rfl⟩
  replace H : (if y621.length + l0_4.length < 140737488355328 then (some ((y621 ++ l0_4), 0)) else (none)) = some (r1, r2) := by first | (rw [hy621]; with_reducible exact H) | (have H2_ := (Option.bind_some _ _).symm.trans H; rw [hy621]; with_reducible exact H2_) | (have H2_ := (Option.bind_some _ _).symm.trans H; with_reducible exact H2_) | with_reducible exact H | (rw [hy621]; exact H) | exact H
  have Ny621 := Aside0.mk hy621
  clear hy621
  by_cases c5 : y621.length + l0_4.length < 140737488355328
  ·rw [if_pos c5] at H
   have LMc5 := Aside0.mk c5
   clear c5
   obtain ⟨y624, hy624⟩ : ∃ y_ : List Int, y_ = (y621 ++ l0_4) := ⟨_, rfl⟩
   replace H : (some (y624, 0)) = some (r1, r2) := by first | (rw [hy624]; with_reducible exact H) | (have H2_ := (Option.bind_some _ _).symm.trans H; rw [hy624]; with_reducible exact H2_) | (have H2_ := (Option.bind_some _ _).symm.trans H; with_reducible exact H2_) | with_reducible exact H | (rw [hy624]; exact H) | exact H
   have Ny624 := Aside0.mk hy624
   clear hy624
   simp only [Option.some.injEq, Prod.mk.injEq] at H
   obtain ⟨rfl, rfl⟩ := H
   go_enter Try.func112, Try.ntmps112
   go_wp2_with (first | ((with_reducible refine gate_dst (N := 1) rfl ?_); refine box_event ?hg (N := 1) ?hd (cs := #[.int .u8 a0_0, .int .u8 a0_1, .int .u16 a0_2, .int .u32 a0_3, .slice A0_4 l0_4.length c0_4]) (t := 101) ?hr ?_; (case hd => rfl); (case hg => rfl); (case hr => first | (go_simp; done) | (go_simp; rfl)); intro gb620 hg w6 hbox hb; have n0_ := Aside0.mk (below_step (bz HB) hb); have n1_ := Aside0.mk (hbox); have n2_ := Aside0.mk ((by rw [hg]; exact (below_size (bz HB)) : w.heap.size ≤ gb620)); have n3_ := Aside0.mk ((by rw [hg]; exact (below_size (bz HB)) : w.heap.size ≤ gb620)); clear HB; have HB := n0_; have BK620 := n1_; have GW620 := n2_; have GE620 := n3_; clear n0_ n1_ n2_ n3_; clear hb hbox hg; have hcz7_0 : w6.cell? ⟨gb620, 0, none⟩ = some (.int .u8 a0_0) := cz BK620.out 0 rfl; have hcz7_1 : w6.cell? ⟨gb620, 1, none⟩ = some (.int .u8 a0_1) := cz BK620.out 1 rfl; have hcz7_2 : w6.cell? ⟨gb620, 2, none⟩ = some (.int .u16 a0_2) := cz BK620.out 2 rfl; have hcz7_3 : w6.cell? ⟨gb620, 3, none⟩ = some (.int .u32 a0_3) := cz BK620.out 3 rfl; have hcz7_4 : w6.cell? ⟨gb620, 4, none⟩ = some (.slice A0_4 l0_4.length c0_4) := cz BK620.out 4 rfl; have hfz7_0 := blk_frozen BK620.out 0; have hfz7_1 := blk_frozen BK620.out 1; have hfz7_2 := blk_frozen BK620.out 2; have hfz7_3 := blk_frozen BK620.out 3; have hfz7_4 := blk_frozen BK620.out 4) | ((with_reducible refine gate_dst (N := 35) rfl ?_); refine Kd.R_lit (Kd.int .u8) _ 5 ?hg (N := 35) ?hd (xs := ([a0_0, a0_1, (a0_2 / 256) % 256, (a0_2) % 256, (a0_3 / 16777216) % 256, (a0_3 / 65536) % 256, (a0_3 / 256) % 256, (a0_3) % 256] : List Int)) (inner := [.int .u8 a0_0, .int .u8 a0_1, .int .u8 ((a0_2 / 256) % 256), .int .u8 ((a0_2) % 256), .int .u8 ((a0_3 / 16777216) % 256), .int .u8 ((a0_3 / 65536) % 256), .int .u8 ((a0_3 / 256) % 256), .int .u8 ((a0_3) % 256)]) (ok := fun _ => True) (okp := fun _ => True) ?hr ?hp (fun _ hk => hk) trivial (Below.refl _ _) (Nat.le_refl _) (by simp) ?_; (case hd => rfl); (case hg => rfl); (case hr => first | (go_simp; done) | (go_simp; simp only [IntKind.wrap_u8, IntKind.wrap_u16, IntKind.wrap_u32]; done) | (go_simp; rfl)); (case hp => exact (Reps.one (show Kd.M (Kd.int .u8) _ _ _ a0_0 [.int .u8 a0_0] from rfl) (Reps.one (show Kd.M (Kd.int .u8) _ _ _ a0_1 [.int .u8 a0_1] from rfl) (Reps.one (show Kd.M (Kd.int .u8) _ _ _ ((a0_2 / 256) % 256) [.int .u8 ((a0_2 / 256) % 256)] from rfl) (Reps.one (show Kd.M (Kd.int .u8) _ _ _ ((a0_2) % 256) [.int .u8 ((a0_2) % 256)] from rfl) (Reps.one (show Kd.M (Kd.int .u8) _ _ _ ((a0_3 / 16777216) % 256) [.int .u8 ((a0_3 / 16777216) % 256)] from rfl) (Reps.one (show Kd.M (Kd.int .u8) _ _ _ ((a0_3 / 65536) % 256) [.int .u8 ((a0_3 / 65536) % 256)] from rfl) (Reps.one (show Kd.M (Kd.int .u8) _ _ _ ((a0_3 / 256) % 256) [.int .u8 ((a0_3 / 256) % 256)] from rfl) (Reps.one (show Kd.M (Kd.int .u8) _ _ _ ((a0_3) % 256) [.int .u8 ((a0_3) % 256)] from rfl) (Reps.none _ _)))))))))); intro v622 w8 ho9 hb hg_ hnew_; clear hg_ hnew_; (first | rw [← Ny621.out] at ho9 | (simp only [Int.reduceToNat] at ho9; rw [← Ny621.out] at ho9)); have n0_ := Aside0.mk (Kd.R_lower ho9 (below_size (bz HB))); have n1_ := Aside0.mk (blk_below (kz BK620) hb); have n2_ := Aside0.mk (below_step (bz HB) hb); clear BK620; clear HB; have HO623 := n0_; have BK620 := n1_; have HB := n2_; clear n0_ n1_ n2_; clear hb ho9; have hcz10_0 : w8.cell? ⟨gb620, 0, none⟩ = some (.int .u8 a0_0) := cz BK620.out 0 rfl; have hcz10_1 : w8.cell? ⟨gb620, 1, none⟩ = some (.int .u8 a0_1) := cz BK620.out 1 rfl; have hcz10_2 : w8.cell? ⟨gb620, 2, none⟩ = some (.int .u16 a0_2) := cz BK620.out 2 rfl; have hcz10_3 : w8.cell? ⟨gb620, 3, none⟩ = some (.int .u32 a0_3) := cz BK620.out 3 rfl; have hcz10_4 : w8.cell? ⟨gb620, 4, none⟩ = some (.slice A0_4 l0_4.length c0_4) := cz BK620.out 4 rfl; have hfz10_0 := blk_frozen BK620.out 0; have hfz10_1 := blk_frozen BK620.out 1; have hfz10_2 := blk_frozen BK620.out 2; have hfz10_3 := blk_frozen BK620.out 3; have hfz10_4 := blk_frozen BK620.out 4) | ((with_reducible refine gate_builtin (b := .append) (xs := #[.tmp 35, .tmp 37]) rfl ?_); at_builtin; refine Kd.R_append_rows (Kd.int .u8) (w0 := w) w.heap.size rfl (.tmp 35) (.tmp 37) 23 5 (.int .u8 0) 1 rfl Try.underlying23 info5 rfl (by decide) (by omega) v622 y621 l0_4 _ _ _ (fun _ => True) (fun _ => False) rfl rfl ?aO ?aR (fun _ _ h => h) (fun _ h => h.elim) ?aF ?aB ?aS ?aL ?_; (case aR => exact Kd.C_below HR0_4.out (bz HB)); (case aB => exact bz HB); (case aF => exact (fun _ _ => trivial)); (case aO => exact (Kd.rz HO623)); (case aS => exact (below_size (bz HB))); (case aL => have := LMc5.out; omega); intro v625 w11 ho hb hg hat; rw [← Ny624.out] at ho; have n0_ := Aside0.mk (blk_grown (kz BK620) hg (Kd.R_ne HO623.out BK620.out (by decide))); have n1_ := Aside0.mk (hb); have n2_ := Aside0.mk (ho); clear BK620; clear HB; clear HO623; have BK620 := n0_; have HB := n1_; have HO626 := n2_; clear n0_ n1_ n2_; clear ho hb hg hat))
   go_ret2
   exact ⟨_, by first | rfl | (simp [errW_none, errW_some] <;> rfl) | (simp [*, errW_none, errW_some] <;> rfl), by (with_reducible repeat (first | apply Kd.R_alloc | apply Kd.R_drewN | apply Kd.R_drew)); exact HO626.out, bz HB⟩
  ·rw [if_neg c5] at H
   exact absurd H (by simp)
def icmp_Right.f (k : Nat) (a0_0 : Int) (a0_1 : Int) (a0_2 : Int) (a0_3 : Int) (l0_4 : List Int) : Option (Bool) := (icmp_Bytes.f a0_0 a0_1 a0_2 a0_3 l0_4).bind fun bt628 => (if bt628.2 = 0 then ((sum_Of.f k bt628.1).bind fun t632 => (some (t632 == 0))) else (some false))
theorem icmp_Right.calls (k : Nat) (a0_0 : Int) (a0_1 : Int) (a0_2 : Int) (a0_3 : Int) (A0_4 : Option Addr) (c0_4 : Nat) (l0_4 : List Int) (r : Bool) (w : World) (hr0_4 : Kd.C (Kd.int .u8) w A0_4 l0_4.length l0_4) (hc0_4 : l0_4.length ≤ c0_4) (h : icmp_Right.f k a0_0 a0_1 a0_2 a0_3 l0_4 = some r) :
  Calls Try.prog 162 #[.agg #[.int .u8 a0_0, .int .u8 a0_1, .int .u16 a0_2, .int .u32 a0_3, .slice A0_4 l0_4.length c0_4]] w fun e w' => e = .returned (.bool r) ∧ Below w.heap.size w w' := by
 have hu101 := Try.underlying101
 have HR0_4 := Aside0.mk hr0_4
 have HC0_4 := Aside0.mk hc0_4
 clear hr0_4 hc0_4
 have HB := Aside0.mk (Below.refl w.heap.size w)
 have H : ((icmp_Bytes.f a0_0 a0_1 a0_2 a0_3 l0_4).bind fun bt628 => (if bt628.2 = 0 then ((sum_Of.f k bt628.1).bind fun t632 => (some (t632 == 0))) else (some false))) = some r := h
 clear h
 replace H := Option.bind_eq_some_iff.mp H
 obtain ⟨⟨t628, t631⟩, A20, H⟩ := H
 replace H : (if t631 = 0 then ((sum_Of.f k t628).bind fun t632 => (some (t632 == 0))) else (some false)) = some r := H
 have A2 := Aside0.mk A20
 clear A20
 by_cases c3 : t631 = 0
 ·rw [if_pos c3] at H
  have c3b0 : (t631 == 0) = true := beq_iff_eq.mpr c3
  have c3b1 : (t631 != 0) = false := bne_eq_false_iff_eq.mpr c3
  clear c3
  replace H := Option.bind_eq_some_iff.mp H
  obtain ⟨t632, A40, H⟩ := H
  replace H : (some (t632 == 0)) = some r := H
  have A4 := Aside0.mk A40
  clear A40
  obtain rfl := Option.some.inj H
  go_enter Try.func162, Try.ntmps162
  go_wp2_with (first | ((with_reducible refine gate_dst (N := 1) rfl ?_); refine box_event ?hg (N := 1) ?hd (cs := #[.int .u8 a0_0, .int .u8 a0_1, .int .u16 a0_2, .int .u32 a0_3, .slice A0_4 l0_4.length c0_4]) (t := 101) ?hr ?_; (case hd => rfl); (case hg => rfl); (case hr => first | (go_simp; done) | (go_simp; rfl)); intro gb627 hg w5 hbox hb; have n0_ := Aside0.mk (below_step (bz HB) hb); have n1_ := Aside0.mk (hbox); have n2_ := Aside0.mk ((by rw [hg]; exact (below_size (bz HB)) : w.heap.size ≤ gb627)); have n3_ := Aside0.mk ((by rw [hg]; exact (below_size (bz HB)) : w.heap.size ≤ gb627)); clear HB; have HB := n0_; have BK627 := n1_; have GW627 := n2_; have GE627 := n3_; clear n0_ n1_ n2_ n3_; clear hb hbox hg; have hcz6_0 : w5.cell? ⟨gb627, 0, none⟩ = some (.int .u8 a0_0) := cz BK627.out 0 rfl; have hcz6_1 : w5.cell? ⟨gb627, 1, none⟩ = some (.int .u8 a0_1) := cz BK627.out 1 rfl; have hcz6_2 : w5.cell? ⟨gb627, 2, none⟩ = some (.int .u16 a0_2) := cz BK627.out 2 rfl; have hcz6_3 : w5.cell? ⟨gb627, 3, none⟩ = some (.int .u32 a0_3) := cz BK627.out 3 rfl; have hcz6_4 : w5.cell? ⟨gb627, 4, none⟩ = some (.slice A0_4 l0_4.length c0_4) := cz BK627.out 4 rfl; have hfz6_0 := blk_frozen BK627.out 0; have hfz6_1 := blk_frozen BK627.out 1; have hfz6_2 := blk_frozen BK627.out 2; have hfz6_3 := blk_frozen BK627.out 3; have hfz6_4 := blk_frozen BK627.out 4) | ((with_reducible refine gate_callee (f := 112) rfl ?_); refine gL 7 Try.func112 #[.agg #[.int .u8 a0_0, .int .u8 a0_1, .int .u16 a0_2, .int .u32 a0_3, .slice A0_4 l0_4.length c0_4]] ?_; (with_reducible refine (icmp_Bytes.calls a0_0 a0_1 a0_2 a0_3 _ _ l0_4 t628 t631 _ ?side1 ?side2 A2.out).mono ?_); (case side1 => exact Kd.C_below HR0_4.out (bz HB)); (case side2 => exact HC0_4.out); rintro e w7 ⟨v629, rfl, ho0, hb⟩; refine ⟨_, rfl, ?_⟩; have n0_ := Aside0.mk (Kd.R_lower ho0 (below_size (bz HB))); have n1_ := Aside0.mk (blk_below (kz BK627) hb); have n2_ := Aside0.mk (below_step (bz HB) hb); clear BK627; clear HB; have HO630 := n0_; have BK627 := n1_; have HB := n2_; clear n0_ n1_ n2_; (try clear hb); (try clear hb2); (try clear hk); (try clear hi); (try clear ho0); obtain ⟨Ao8, co8, eo8⟩ := Kd.R_slice HO630.out; subst eo8) | (go_at_call 90; (with_reducible refine (sum_Of.calls k _ _ t628 t632 _ ?side1 ?side2 A4.out).mono ?_); (case side1 => repeat (first | exact (Kd.R_reads' HO630.out).2.2 | (with_reducible refine Kd.C_alloc ?_ _) | (with_reducible refine Kd.C_drewN ?_ _) | (with_reducible refine Kd.C_drew ?_))); (case side2 => exact (Kd.R_reads' HO630.out).2.1); rintro e w9 ⟨rfl, hb⟩; have n0_ := Aside0.mk (Kd.R_below (Kd.rz HO630) hb); have n1_ := Aside0.mk (blk_below (kz BK627) hb); have n2_ := Aside0.mk (below_step (bz HB) hb); clear HO630; clear BK627; clear HB; have HO630 := n0_; have BK627 := n1_; have HB := n2_; clear n0_ n1_ n2_; (try clear hb); (try clear hb2); (try clear hk); (try clear hi)))
  go_ret
  exact ⟨by first | rfl | (simp [errW_none, errW_some] <;> rfl) | (simp [*, errW_none, errW_some] <;> rfl), bz HB⟩
 ·rw [if_neg c3] at H
  have c3b0 : (t631 == 0) = false := beq_eq_false_iff_ne.mpr c3
  have c3b1 : (t631 != 0) = true := bne_iff_ne.mpr c3
  obtain rfl := Option.some.inj H
  go_enter Try.func162, Try.ntmps162
  go_wp2_with (first | ((with_reducible refine gate_dst (N := 1) rfl ?_); refine box_event ?hg (N := 1) ?hd (cs := #[.int .u8 a0_0, .int .u8 a0_1, .int .u16 a0_2, .int .u32 a0_3, .slice A0_4 l0_4.length c0_4]) (t := 101) ?hr ?_; (case hd => rfl); (case hg => rfl); (case hr => first | (go_simp; done) | (go_simp; rfl)); intro gb627 hg w10 hbox hb; have n0_ := Aside0.mk (below_step (bz HB) hb); have n1_ := Aside0.mk (hbox); have n2_ := Aside0.mk ((by rw [hg]; exact (below_size (bz HB)) : w.heap.size ≤ gb627)); have n3_ := Aside0.mk ((by rw [hg]; exact (below_size (bz HB)) : w.heap.size ≤ gb627)); clear HB; have HB := n0_; have BK627 := n1_; have GW627 := n2_; have GE627 := n3_; clear n0_ n1_ n2_ n3_; clear hb hbox hg; have hcz11_0 : w10.cell? ⟨gb627, 0, none⟩ = some (.int .u8 a0_0) := cz BK627.out 0 rfl; have hcz11_1 : w10.cell? ⟨gb627, 1, none⟩ = some (.int .u8 a0_1) := cz BK627.out 1 rfl; have hcz11_2 : w10.cell? ⟨gb627, 2, none⟩ = some (.int .u16 a0_2) := cz BK627.out 2 rfl; have hcz11_3 : w10.cell? ⟨gb627, 3, none⟩ = some (.int .u32 a0_3) := cz BK627.out 3 rfl; have hcz11_4 : w10.cell? ⟨gb627, 4, none⟩ = some (.slice A0_4 l0_4.length c0_4) := cz BK627.out 4 rfl; have hfz11_0 := blk_frozen BK627.out 0; have hfz11_1 := blk_frozen BK627.out 1; have hfz11_2 := blk_frozen BK627.out 2; have hfz11_3 := blk_frozen BK627.out 3; have hfz11_4 := blk_frozen BK627.out 4) | ((with_reducible refine gate_callee (f := 112) rfl ?_); refine gL 7 Try.func112 #[.agg #[.int .u8 a0_0, .int .u8 a0_1, .int .u16 a0_2, .int .u32 a0_3, .slice A0_4 l0_4.length c0_4]] ?_; (with_reducible refine (icmp_Bytes.calls a0_0 a0_1 a0_2 a0_3 _ _ l0_4 t628 t631 _ ?side1 ?side2 A2.out).mono ?_); (case side1 => exact Kd.C_below HR0_4.out (bz HB)); (case side2 => exact HC0_4.out); rintro e w12 ⟨v629, rfl, ho0, hb⟩; refine ⟨_, rfl, ?_⟩; have n0_ := Aside0.mk (Kd.R_lower ho0 (below_size (bz HB))); have n1_ := Aside0.mk (blk_below (kz BK627) hb); have n2_ := Aside0.mk (below_step (bz HB) hb); clear BK627; clear HB; have HO630 := n0_; have BK627 := n1_; have HB := n2_; clear n0_ n1_ n2_; (try clear hb); (try clear hb2); (try clear hk); (try clear hi); (try clear ho0)))
  go_ret
  exact ⟨by first | rfl | (simp [errW_none, errW_some] <;> rfl) | (simp [*, errW_none, errW_some] <;> rfl), bz HB⟩
def rewrite_message_right.f (k : Nat) (a0_0 : Int) (a0_1 : Int) (a0_2 : Int) (a0_3 : Int) (l0_4 : List Int) (a1_0 : Int) (a1_1 : Int) (a1_2 : Int) (a1_3 : Int) (a1_4 : Int) (a1_5 : Int) (a1_6 : Int) (a1_7 : Int) (l1_8 : List Int) (l1_9 : List Int) : Option (Bool) := (icmp_Right.f k a0_0 a0_1 a0_2 a0_3 l0_4).bind fun t635 => (some t635)
theorem rewrite_message_right.calls (k : Nat) (a0_0 : Int) (a0_1 : Int) (a0_2 : Int) (a0_3 : Int) (A0_4 : Option Addr) (c0_4 : Nat) (l0_4 : List Int) (a1_0 : Int) (a1_1 : Int) (a1_2 : Int) (a1_3 : Int) (a1_4 : Int) (a1_5 : Int) (a1_6 : Int) (a1_7 : Int) (A1_8 : Option Addr) (c1_8 : Nat) (l1_8 : List Int) (A1_9 : Option Addr) (c1_9 : Nat) (l1_9 : List Int) (r : Bool) (w : World) (hr0_4 : Kd.C (Kd.int .u8) w A0_4 l0_4.length l0_4) (hc0_4 : l0_4.length ≤ c0_4) (hr1_8 : Kd.C (Kd.int .u8) w A1_8 l1_8.length l1_8) (hc1_8 : l1_8.length ≤ c1_8) (hr1_9 : Kd.C (Kd.int .u8) w A1_9 l1_9.length l1_9) (hc1_9 : l1_9.length ≤ c1_9) (h : rewrite_message_right.f k a0_0 a0_1 a0_2 a0_3 l0_4 a1_0 a1_1 a1_2 a1_3 a1_4 a1_5 a1_6 a1_7 l1_8 l1_9 = some r) :
  Calls Try.prog 161 #[.agg #[.int .u8 a0_0, .int .u8 a0_1, .int .u16 a0_2, .int .u32 a0_3, .slice A0_4 l0_4.length c0_4], .agg #[.int .u8 a1_0, .int .u8 a1_1, .int .u8 a1_2, .int .u16 a1_3, .int .u8 a1_4, .int .u16 a1_5, .int .u32 a1_6, .int .u32 a1_7, .slice A1_8 l1_8.length c1_8, .slice A1_9 l1_9.length c1_9]] w fun e w' => e = .returned (.bool r) ∧ Below w.heap.size w w' := by
 have hu183 := Try.underlying183
 have hu73 := Try.underlying73
 have hu101 := Try.underlying101
 have HR0_4 := Aside0.mk hr0_4
 have HC0_4 := Aside0.mk hc0_4
 clear hr0_4 hc0_4
 have HR1_8 := Aside0.mk hr1_8
 have HC1_8 := Aside0.mk hc1_8
 clear hr1_8 hc1_8
 have HR1_9 := Aside0.mk hr1_9
 have HC1_9 := Aside0.mk hc1_9
 clear hr1_9 hc1_9
 have HB := Aside0.mk (Below.refl w.heap.size w)
 have H : ((icmp_Right.f k a0_0 a0_1 a0_2 a0_3 l0_4).bind fun t635 => (some t635)) = some r := h
 clear h
 replace H := Option.bind_eq_some_iff.mp H
 obtain ⟨t635, A30, H⟩ := H
 replace H : (some t635) = some r := H
 have A3 := Aside0.mk A30
 clear A30
 obtain rfl := Option.some.inj H
 go_enter Try.func161, Try.ntmps161
 go_wp2_with (first | ((with_reducible refine gate_dst (N := 2) rfl ?_); refine box_event ?hg (N := 2) ?hd (cs := #[.int .u8 a0_0, .int .u8 a0_1, .int .u16 a0_2, .int .u32 a0_3, .slice A0_4 l0_4.length c0_4]) (t := 183) ?hr ?_; (case hd => rfl); (case hg => rfl); (case hr => first | (go_simp; done) | (go_simp; rfl)); intro gb633 hg w4 hbox hb; have n0_ := Aside0.mk (below_step (bz HB) hb); have n1_ := Aside0.mk (hbox); have n2_ := Aside0.mk ((by rw [hg]; exact (below_size (bz HB)) : w.heap.size ≤ gb633)); have n3_ := Aside0.mk ((by rw [hg]; exact (below_size (bz HB)) : w.heap.size ≤ gb633)); clear HB; have HB := n0_; have BK633 := n1_; have GW633 := n2_; have GE633 := n3_; clear n0_ n1_ n2_ n3_; clear hb hbox hg) | ((with_reducible refine gate_dst (N := 3) rfl ?_); refine box_event ?hg (N := 3) ?hd (cs := #[.int .u8 a1_0, .int .u8 a1_1, .int .u8 a1_2, .int .u16 a1_3, .int .u8 a1_4, .int .u16 a1_5, .int .u32 a1_6, .int .u32 a1_7, .slice A1_8 l1_8.length c1_8, .slice A1_9 l1_9.length c1_9]) (t := 73) ?hr ?_; (case hd => rfl); (case hg => rfl); (case hr => first | (go_simp; done) | (go_simp; rfl)); intro gb634 hg w5 hbox hb; have n0_ := Aside0.mk (blk_below (kz BK633) hb); have n1_ := Aside0.mk (below_step (bz HB) hb); have n2_ := Aside0.mk (hbox); have n3_ := Aside0.mk ((by rw [hg]; exact (below_size (bz HB)) : w.heap.size ≤ gb634)); have n4_ := Aside0.mk ((by rw [hg]; exact (below_size (bz HB)) : w.heap.size ≤ gb634)); have n5_ := Aside0.mk ((by rw [hg]; exact Nat.ne_of_lt (blk_lt (g := gb633) (o := .cells #[.int .u8 a0_0, .int .u8 a0_1, .int .u16 a0_2, .int .u32 a0_3, .slice A0_4 l0_4.length c0_4] 183 (0, 0)) (kz BK633)) : gb633 ≠ gb634)); have n6_ := Aside0.mk ((by rw [hg]; exact Nat.ne_of_gt (blk_lt (g := gb633) (o := .cells #[.int .u8 a0_0, .int .u8 a0_1, .int .u16 a0_2, .int .u32 a0_3, .slice A0_4 l0_4.length c0_4] 183 (0, 0)) (kz BK633)) : gb634 ≠ gb633)); clear BK633; clear HB; have BK633 := n0_; have HB := n1_; have BK634 := n2_; have GW634 := n3_; have GE634 := n4_; have NB633_634 := n5_; have NB634_633 := n6_; clear n0_ n1_ n2_ n3_ n4_ n5_ n6_; clear hb hbox hg; have hnb6 := NB633_634.out; have hnc6 := NB634_633.out; have hcz7_0 : w5.cell? ⟨gb633, 0, none⟩ = some (.int .u8 a0_0) := cz BK633.out 0 rfl; have hcz7_1 : w5.cell? ⟨gb633, 1, none⟩ = some (.int .u8 a0_1) := cz BK633.out 1 rfl; have hcz7_2 : w5.cell? ⟨gb633, 2, none⟩ = some (.int .u16 a0_2) := cz BK633.out 2 rfl; have hcz7_3 : w5.cell? ⟨gb633, 3, none⟩ = some (.int .u32 a0_3) := cz BK633.out 3 rfl; have hcz7_4 : w5.cell? ⟨gb633, 4, none⟩ = some (.slice A0_4 l0_4.length c0_4) := cz BK633.out 4 rfl; have hfz7_0 := blk_frozen BK633.out 0; have hfz7_1 := blk_frozen BK633.out 1; have hfz7_2 := blk_frozen BK633.out 2; have hfz7_3 := blk_frozen BK633.out 3; have hfz7_4 := blk_frozen BK633.out 4) | ((with_reducible refine gate_callee (f := 162) rfl ?_); refine gL 7 Try.func162 #[.agg #[.int .u8 a0_0, .int .u8 a0_1, .int .u16 a0_2, .int .u32 a0_3, .slice A0_4 l0_4.length c0_4]] ?_; (with_reducible refine (icmp_Right.calls k a0_0 a0_1 a0_2 a0_3 _ _ l0_4 t635 _ ?side1 ?side2 A3.out).mono ?_); (case side1 => exact Kd.C_below HR0_4.out (bz HB)); (case side2 => exact HC0_4.out); rintro e w8 ⟨rfl, hb⟩; refine ⟨_, rfl, ?_⟩; have n0_ := Aside0.mk (blk_below (kz BK633) hb); have n1_ := Aside0.mk (blk_below (kz BK634) hb); have n2_ := Aside0.mk (below_step (bz HB) hb); clear BK633; clear BK634; clear HB; have BK633 := n0_; have BK634 := n1_; have HB := n2_; clear n0_ n1_ n2_; (try clear hb); (try clear hb2); (try clear hk); (try clear hi)))
 go_ret
 exact ⟨by first | rfl | (simp [errW_none, errW_some] <;> rfl) | (simp [*, errW_none, errW_some] <;> rfl), bz HB⟩
def rewrite_datagram_proto.f (a0_0 : Int) (a0_1 : Int) (a0_2 : Int) (l0_3 : List Int) : Option (Int) := some 17
theorem rewrite_datagram_proto.calls (a0_0 : Int) (a0_1 : Int) (a0_2 : Int) (A0_3 : Option Addr) (c0_3 : Nat) (l0_3 : List Int) (r : Int) (w : World) (hr0_3 : Kd.C (Kd.int .u8) w A0_3 l0_3.length l0_3) (hc0_3 : l0_3.length ≤ c0_3) (h : rewrite_datagram_proto.f a0_0 a0_1 a0_2 l0_3 = some r) :
  Calls Try.prog 155 #[.agg #[.int .u16 a0_0, .int .u16 a0_1, .int .u16 a0_2, .slice A0_3 l0_3.length c0_3]] w fun e w' => e = .returned (.int .u8 r) ∧ Below w.heap.size w w' := by
 have hu179 := Try.underlying179
 have HR0_3 := Aside0.mk hr0_3
 have HC0_3 := Aside0.mk hc0_3
 clear hr0_3 hc0_3
 have HB := Aside0.mk (Below.refl w.heap.size w)
 have H : (some 17) = some r := h
 clear h
 obtain rfl := Option.some.inj H
 go_enter Try.func155, Try.ntmps155
 go_wp2_with (first | ((with_reducible refine gate_dst (N := 1) rfl ?_); refine box_event ?hg (N := 1) ?hd (cs := #[.int .u16 a0_0, .int .u16 a0_1, .int .u16 a0_2, .slice A0_3 l0_3.length c0_3]) (t := 179) ?hr ?_; (case hd => rfl); (case hg => rfl); (case hr => first | (go_simp; done) | (go_simp; rfl)); intro gb636 hg w2 hbox hb; have n0_ := Aside0.mk (below_step (bz HB) hb); have n1_ := Aside0.mk (hbox); have n2_ := Aside0.mk ((by rw [hg]; exact (below_size (bz HB)) : w.heap.size ≤ gb636)); have n3_ := Aside0.mk ((by rw [hg]; exact (below_size (bz HB)) : w.heap.size ≤ gb636)); clear HB; have HB := n0_; have BK636 := n1_; have GW636 := n2_; have GE636 := n3_; clear n0_ n1_ n2_ n3_; clear hb hbox hg))
 go_ret
 exact ⟨by first | rfl | (simp [errW_none, errW_some] <;> rfl) | (simp [*, errW_none, errW_some] <;> rfl), bz HB⟩
def rewrite_message_proto.f (a0_0 : Int) (a0_1 : Int) (a0_2 : Int) (a0_3 : Int) (l0_4 : List Int) : Option (Int) := some 1
theorem rewrite_message_proto.calls (a0_0 : Int) (a0_1 : Int) (a0_2 : Int) (a0_3 : Int) (A0_4 : Option Addr) (c0_4 : Nat) (l0_4 : List Int) (r : Int) (w : World) (hr0_4 : Kd.C (Kd.int .u8) w A0_4 l0_4.length l0_4) (hc0_4 : l0_4.length ≤ c0_4) (h : rewrite_message_proto.f a0_0 a0_1 a0_2 a0_3 l0_4 = some r) :
  Calls Try.prog 160 #[.agg #[.int .u8 a0_0, .int .u8 a0_1, .int .u16 a0_2, .int .u32 a0_3, .slice A0_4 l0_4.length c0_4]] w fun e w' => e = .returned (.int .u8 r) ∧ Below w.heap.size w w' := by
 have hu183 := Try.underlying183
 have HR0_4 := Aside0.mk hr0_4
 have HC0_4 := Aside0.mk hc0_4
 clear hr0_4 hc0_4
 have HB := Aside0.mk (Below.refl w.heap.size w)
 have H : (some 1) = some r := h
 clear h
 obtain rfl := Option.some.inj H
 go_enter Try.func160, Try.ntmps160
 go_wp2_with (first | ((with_reducible refine gate_dst (N := 1) rfl ?_); refine box_event ?hg (N := 1) ?hd (cs := #[.int .u8 a0_0, .int .u8 a0_1, .int .u16 a0_2, .int .u32 a0_3, .slice A0_4 l0_4.length c0_4]) (t := 183) ?hr ?_; (case hd => rfl); (case hg => rfl); (case hr => first | (go_simp; done) | (go_simp; rfl)); intro gb638 hg w2 hbox hb; have n0_ := Aside0.mk (below_step (bz HB) hb); have n1_ := Aside0.mk (hbox); have n2_ := Aside0.mk ((by rw [hg]; exact (below_size (bz HB)) : w.heap.size ≤ gb638)); have n3_ := Aside0.mk ((by rw [hg]; exact (below_size (bz HB)) : w.heap.size ≤ gb638)); clear HB; have HB := n0_; have BK638 := n1_; have GW638 := n2_; have GE638 := n3_; clear n0_ n1_ n2_ n3_; clear hb hbox hg))
 go_ret
 exact ⟨by first | rfl | (simp [errW_none, errW_some] <;> rfl) | (simp [*, errW_none, errW_some] <;> rfl), bz HB⟩
mutual
def rewrite_within.j0 : Nat → List Int → Int → Bool → Option (Int × Bool)
 | 0, _, _, _ => none
 | k + 1, x0, x4, x29 => if x29 = true then (some (0, false)) else (if 9 < (x0.length : Int) then (if (rd x0 9) = 17 then (rewrite_within.j1 k x0 x4 (rd x0 9) ((rd x0 9) == 17)) else (rewrite_within.j1 k x0 x4 (rd x0 9) ((rd x0 9) == 6))) else (none))
def rewrite_within.j1 : Nat → List Int → Int → Int → Bool → Option (Int × Bool)
 | 0, _, _, _, _ => none
 | k + 1, x0, x4, x32, x33 => if x33 = true then (some (x4, true)) else (if x32 = 1 then (if 0 ≤ x4 then (if x4 ≤ (x0.length : Int) then ((rewrite_echo.f (x0.drop (x4 : Int).toNat)).bind fun t688 => (some (x4, t688))) else (none)) else (none)) else (some (0, false)))
end
def rewrite_within.f (k : Nat) (l0 : List Int) : Option (Int × Bool) := if (l0.length : Int) < 20 then (some (0, false)) else (if 0 < (l0.length : Int) then (if ((rd l0 0) / 16) = 4 then (if (wrap64 (4 * (wrap64 (Go.bits .and .u8 (rd l0 0) 15)))) < 20 then (rewrite_within.j0 k l0 (wrap64 (4 * (wrap64 (Go.bits .and .u8 (rd l0 0) 15)))) true) else (rewrite_within.j0 k l0 (wrap64 (4 * (wrap64 (Go.bits .and .u8 (rd l0 0) 15)))) (decide ((l0.length : Int) < (wrap64 ((wrap64 (4 * (wrap64 (Go.bits .and .u8 (rd l0 0) 15)))) + 8)))))) else (rewrite_within.j0 k l0 (wrap64 (4 * (wrap64 (Go.bits .and .u8 (rd l0 0) 15)))) true)) else (none))
theorem rewrite_within.calls (k : Nat) (A0 : Option Addr) (c0 : Nat) (l0 : List Int) (r1 : Int) (r2 : Bool) (w : World) (hr0 : Kd.C (Kd.int .u8) w A0 l0.length l0) (hc0 : l0.length ≤ c0) (h : rewrite_within.f k l0 = some (r1, r2)) :
  Calls Try.prog 86 #[.slice A0 l0.length c0] w fun e w' => e = .returned (.tuple #[.int .i64 r1, .bool r2]) ∧ Below w.heap.size w w' := by
 have HR0 := Aside0.mk hr0
 have HC0 := Aside0.mk hc0
 clear hr0 hc0
 have HB := Aside0.mk (Below.refl w.heap.size w)
 have H : (if (l0.length : Int) < 20 then (some (0, false)) else (if 0 < (l0.length : Int) then (if ((rd l0 0) / 16) = 4 then (if (wrap64 (4 * (wrap64 (Go.bits .and .u8 (rd l0 0) 15)))) < 20 then (rewrite_within.j0 k l0 (wrap64 (4 * (wrap64 (Go.bits .and .u8 (rd l0 0) 15)))) true) else (rewrite_within.j0 k l0 (wrap64 (4 * (wrap64 (Go.bits .and .u8 (rd l0 0) 15)))) (decide ((l0.length : Int) < (wrap64 ((wrap64 (4 * (wrap64 (Go.bits .and .u8 (rd l0 0) 15)))) + 8)))))) else (rewrite_within.j0 k l0 (wrap64 (4 * (wrap64 (Go.bits .and .u8 (rd l0 0) 15)))) true)) else (none))) = some (r1, r2) := h
 clear h
 by_cases c2 : (l0.length : Int) < 20
 ·rw [if_pos c2] at H
  have c2b0 : decide ((l0.length : Int) < 20) = true := decide_eq_true c2
  have c2b1 : decide (l0.length < 20) = true := decide_eq_true (by omega)
  clear c2
  simp only [Option.some.injEq, Prod.mk.injEq] at H
  obtain ⟨rfl, rfl⟩ := H
  go_enter Try.func86, Try.ntmps86
  go_wp2
  go_ret2
  exact ⟨by first | rfl | (simp [errW_none, errW_some] <;> rfl) | (simp [*, errW_none, errW_some] <;> rfl), bz HB⟩
 ·rw [if_neg c2] at H
  have c2b0 : decide ((l0.length : Int) < 20) = false := decide_eq_false c2
  have c2b1 : decide (l0.length < 20) = false := decide_eq_false (by omega)
  clear c2
  by_cases c3 : 0 < (l0.length : Int)
  ·rw [if_pos c3] at H
   have c3b0 : decide (0 < (l0.length : Int)) = true := decide_eq_true c3
   have c3b1 : decide (0 < l0.length) = true := decide_eq_true (by omega)
   clear c3
   have HC4 := Aside0.mk H
   clear H
   have p684 : 0 ≤ (0 : Int) := (by omega)
   have q684 : 0 < (l0.length : Int) := of_decide_eq_true (by first | (with_reducible assumption) | assumption)
   obtain ⟨ad684, e684, hx684_0⟩ := Kd.at_int HR0.out 0 p684 q684
   cases e684
   have qi684 : (0 < l0.length) = True := eq_true (by omega)
   (try rw [show ((0 : Int)).toNat = 0 from rfl] at hx684_0)
   (try rw [Addr.add_zero'] at hx684_0)
   replace p684 := eq_true p684
   replace q684 := eq_true q684
   go_enter Try.func86, Try.ntmps86
   go_upto_region 4 with (fail)
   go_cut [29] (fun v29 wc => ∃ (kq : Nat) (x29_3 : Bool), v29 = .bool x29_3 ∧ Aside0 (rewrite_within.j0 kq l0 (wrap64 (4 * (wrap64 (Go.bits .and .u8 (rd l0 0) 15)))) x29_3 = some (r1, r2)) ∧ Aside0 (kq ≤ k) ∧ Aside0 (Below w.heap.size w wc))
   case first =>
    have H := HC4.out
    clear HC4
    by_cases c5 : ((rd l0 0) / 16) = 4
    ·rw [if_pos c5] at H
     have c5b0 : (((rd l0 0) / 16) == 4) = true := beq_iff_eq.mpr c5
     have c5b1 : (((rd l0 0) / 16) != 4) = false := bne_eq_false_iff_eq.mpr c5
     clear c5
     (first | rw [c5b0] | (simp only [i64_w, i32_w]; rw [c5b0]) | skip)
     by_cases c6 : (wrap64 (4 * (wrap64 (Go.bits .and .u8 (rd l0 0) 15)))) < 20
     ·rw [if_pos c6] at H
      have c6b0 : decide ((wrap64 (4 * (wrap64 (Go.bits .and .u8 (rd l0 0) 15)))) < 20) = true := decide_eq_true c6
      clear c6
      have H' := Aside0.mk H
      clear H
      have p685 : 0 ≤ (0 : Int) := (by omega)
      have q685 : 0 < (l0.length : Int) := of_decide_eq_true (by first | (with_reducible assumption) | assumption)
      obtain ⟨ad685, e685, hx685_0⟩ := Kd.at_int HR0.out 0 p685 q685
      obtain rfl : ad684 = ad685 := (by injection e685)
      have qi685 : (0 < l0.length) = True := eq_true (by omega)
      (try rw [show ((0 : Int)).toNat = 0 from rfl] at hx685_0)
      (try rw [Addr.add_zero'] at hx685_0)
      replace hx685_0 := (HB.out.cell (World.block_lt_of_cell? w _ hx685_0)).trans hx685_0
      replace p685 := eq_true p685
      replace q685 := eq_true q685
      go_wp2
      go_meet
      case rel => exact ⟨_, (true), (by first | rfl | (simp; done) | (simp [*]; done)), H', ⟨by first | omega | exact Nat.le_refl _⟩, ⟨bz HB⟩⟩
     ·rw [if_neg c6] at H
      have c6b0 : decide ((wrap64 (4 * (wrap64 (Go.bits .and .u8 (rd l0 0) 15)))) < 20) = false := decide_eq_false c6
      clear c6
      have H' := Aside0.mk H
      clear H
      have p685 : 0 ≤ (0 : Int) := (by omega)
      have q685 : 0 < (l0.length : Int) := of_decide_eq_true (by first | (with_reducible assumption) | assumption)
      obtain ⟨ad685, e685, hx685_0⟩ := Kd.at_int HR0.out 0 p685 q685
      obtain rfl : ad684 = ad685 := (by injection e685)
      have qi685 : (0 < l0.length) = True := eq_true (by omega)
      (try rw [show ((0 : Int)).toNat = 0 from rfl] at hx685_0)
      (try rw [Addr.add_zero'] at hx685_0)
      replace hx685_0 := (HB.out.cell (World.block_lt_of_cell? w _ hx685_0)).trans hx685_0
      replace p685 := eq_true p685
      replace q685 := eq_true q685
      go_wp2
      go_meet
      case rel => exact ⟨_, (decide ((l0.length : Int) < (wrap64 ((wrap64 (4 * (wrap64 (Go.bits .and .u8 (rd l0 0) 15)))) + 8)))), (by first | rfl | (simp; done) | (simp [*]; done)), H', ⟨by first | omega | exact Nat.le_refl _⟩, ⟨bz HB⟩⟩
    ·rw [if_neg c5] at H
     have c5b0 : (((rd l0 0) / 16) == 4) = false := beq_eq_false_iff_ne.mpr c5
     have c5b1 : (((rd l0 0) / 16) != 4) = true := bne_iff_ne.mpr c5
     (first | rw [c5b0] | (simp only [i64_w, i32_w]; rw [c5b0]) | skip)
     have H' := Aside0.mk H
     clear H
     have p685 : 0 ≤ (0 : Int) := (by omega)
     have q685 : 0 < (l0.length : Int) := of_decide_eq_true (by first | (with_reducible assumption) | assumption)
     obtain ⟨ad685, e685, hx685_0⟩ := Kd.at_int HR0.out 0 p685 q685
     obtain rfl : ad684 = ad685 := (by injection e685)
     have qi685 : (0 < l0.length) = True := eq_true (by omega)
     (try rw [show ((0 : Int)).toNat = 0 from rfl] at hx685_0)
     (try rw [Addr.add_zero'] at hx685_0)
     replace hx685_0 := (HB.out.cell (World.block_lt_of_cell? w _ hx685_0)).trans hx685_0
     replace p685 := eq_true p685
     replace q685 := eq_true q685
     go_wp2
     go_meet
     case rel => exact ⟨_, (true), (by first | rfl | (simp; done) | (simp [*]; done)), H', ⟨by first | omega | exact Nat.le_refl _⟩, ⟨bz HB⟩⟩
   case rest =>
    clear HC4
    try clear c2
    try clear c2b0
    try clear c2b1
    try clear c3
    try clear c3b0
    try clear c3b1
    try clear hx684_0
    try clear p684
    try clear q684
    obtain ⟨kq, x29_3, rfl, HA, HJ3, HB⟩ := hcut
    cases kq with
    | zero => exact absurd HA.out (by simp [rewrite_within.j0])
    | succ kj3 =>
     have H := HA.out
     clear HA
     simp only [rewrite_within.j0] at H
     by_cases c7 : x29_3 = true
     ·subst c7
      have H1 : (some (0, false)) = some (r1, r2) := by rw [if_pos rfl] at H; exact H
      clear H
      have H := H1
      clear H1
      simp only [Option.some.injEq, Prod.mk.injEq] at H
      obtain ⟨rfl, rfl⟩ := H
      go_wp2
      go_ret2
      exact ⟨by first | rfl | (simp [errW_none, errW_some] <;> rfl) | (simp [*, errW_none, errW_some] <;> rfl), bz HB⟩
     ·replace c7 := Bool.eq_false_iff.mpr c7
      subst c7
      have H1 : (if 9 < (l0.length : Int) then (if (rd l0 9) = 17 then (rewrite_within.j1 kj3 l0 (wrap64 (4 * (wrap64 (Go.bits .and .u8 (rd l0 0) 15)))) (rd l0 9) ((rd l0 9) == 17)) else (rewrite_within.j1 kj3 l0 (wrap64 (4 * (wrap64 (Go.bits .and .u8 (rd l0 0) 15)))) (rd l0 9) ((rd l0 9) == 6))) else (none)) = some (r1, r2) := by rw [if_neg (show ¬ (false = true) by decide)] at H; exact H
      clear H
      have H := H1
      clear H1
      by_cases c8 : 9 < (l0.length : Int)
      ·rw [if_pos c8] at H
       have c8b0 : decide (9 < (l0.length : Int)) = true := decide_eq_true c8
       have c8b1 : decide (9 < l0.length) = true := decide_eq_true (by omega)
       clear c8
       have HC9 := Aside0.mk H
       clear H
       have p686 : 0 ≤ (9 : Int) := (by omega)
       have q686 : 9 < (l0.length : Int) := of_decide_eq_true (by first | (with_reducible assumption) | assumption)
       obtain ⟨ad686, e686, hx686_0⟩ := Kd.at_int HR0.out 9 p686 q686
       obtain rfl : ad684 = ad686 := (by injection e686)
       (try simp only [show (9 : Int).toNat = 9 from rfl, Nat.reduceMul, Nat.reduceEqDiff, Go.Addr.add, ↓reduceIte] at hx686_0)
       have qi686 : (9 < l0.length) = True := eq_true (by omega)
       (try rw [show ((9 : Int)).toNat = 9 from rfl] at hx686_0)
       replace hx686_0 := (HB.out.cell (World.block_lt_of_cell? w _ hx686_0)).trans hx686_0
       replace p686 := eq_true p686
       replace q686 := eq_true q686
       go_upto_if 33 with (fail)
       go_cut [33] (fun v33 wc => ∃ (kq : Nat) (x33_8 : Bool), v33 = .bool x33_8 ∧ Aside0 (rewrite_within.j1 kq l0 (wrap64 (4 * (wrap64 (Go.bits .and .u8 (rd l0 0) 15)))) (rd l0 9) x33_8 = some (r1, r2)) ∧ Aside0 (kq ≤ kj3) ∧ Aside0 (Below w.heap.size w wc))
       case first =>
        have H := HC9.out
        clear HC9
        by_cases c10 : (rd l0 9) = 17
        ·rw [if_pos c10] at H
         have c10b0 : ((rd l0 9) == 17) = true := beq_iff_eq.mpr c10
         have c10b1 : ((rd l0 9) != 17) = false := bne_eq_false_iff_eq.mpr c10
         clear c10
         (first | rw [c10b0] | (simp only [i64_w, i32_w]; rw [c10b0]) | skip)
         have H' := Aside0.mk H
         clear H
         go_wp2
         go_meet
         case rel => exact ⟨_, (((rd l0 9) == 17)), (by first | rfl | (simp; done) | (simp [*]; done)), H', ⟨by have := HJ3.out; first | omega | exact Nat.le_refl _⟩, ⟨bz HB⟩⟩
        ·rw [if_neg c10] at H
         have c10b0 : ((rd l0 9) == 17) = false := beq_eq_false_iff_ne.mpr c10
         have c10b1 : ((rd l0 9) != 17) = true := bne_iff_ne.mpr c10
         (first | rw [c10b0] | (simp only [i64_w, i32_w]; rw [c10b0]) | skip)
         have H' := Aside0.mk H
         clear H
         go_wp2
         go_meet
         case rel => exact ⟨_, (((rd l0 9) == 6)), (by first | rfl | (simp; done) | (simp [*]; done)), H', ⟨by have := HJ3.out; first | omega | exact Nat.le_refl _⟩, ⟨bz HB⟩⟩
       case rest =>
        clear HC9
        try clear c2
        try clear c2b0
        try clear c2b1
        try clear c3
        try clear c3b0
        try clear c3b1
        try clear c7
        try clear c8
        try clear c8b0
        try clear c8b1
        try clear hx684_0
        try clear hx686_0
        try clear p684
        try clear p686
        try clear q684
        try clear q686
        obtain ⟨kq, x33_8, rfl, HA, HJ8, HB⟩ := hcut
        cases kq with
        | zero => exact absurd HA.out (by simp [rewrite_within.j1])
        | succ kj8 =>
         have H := HA.out
         clear HA
         simp only [rewrite_within.j1] at H
         by_cases c11 : x33_8 = true
         ·subst c11
          have H1 : (some ((wrap64 (4 * (wrap64 (Go.bits .and .u8 (rd l0 0) 15)))), true)) = some (r1, r2) := by rw [if_pos rfl] at H; exact H
          clear H
          have H := H1
          clear H1
          simp only [Option.some.injEq, Prod.mk.injEq] at H
          obtain ⟨rfl, rfl⟩ := H
          go_wp2
          go_ret2
          exact ⟨by first | rfl | (simp [errW_none, errW_some] <;> rfl) | (simp [*, errW_none, errW_some] <;> rfl), bz HB⟩
         ·replace c11 := Bool.eq_false_iff.mpr c11
          subst c11
          have H1 : (if (rd l0 9) = 1 then (if 0 ≤ (wrap64 (4 * (wrap64 (Go.bits .and .u8 (rd l0 0) 15)))) then (if (wrap64 (4 * (wrap64 (Go.bits .and .u8 (rd l0 0) 15)))) ≤ (l0.length : Int) then ((rewrite_echo.f (l0.drop ((wrap64 (4 * (wrap64 (Go.bits .and .u8 (rd l0 0) 15)))) : Int).toNat)).bind fun t688 => (some ((wrap64 (4 * (wrap64 (Go.bits .and .u8 (rd l0 0) 15)))), t688))) else (none)) else (none)) else (some (0, false))) = some (r1, r2) := by rw [if_neg (show ¬ (false = true) by decide)] at H; exact H
          clear H
          have H := H1
          clear H1
          by_cases c12 : (rd l0 9) = 1
          ·rw [if_pos c12] at H
           have c12b0 : ((rd l0 9) == 1) = true := beq_iff_eq.mpr c12
           have c12b1 : ((rd l0 9) != 1) = false := bne_eq_false_iff_eq.mpr c12
           clear c12
           obtain ⟨ji13, hji13⟩ : ∃ j_ : Int, (wrap64 (4 * (wrap64 (Go.bits .and .u8 (rd l0 0) 15)))) = j_ := ⟨_, rfl⟩
           replace H : (if 0 ≤ (ji13) then (if (ji13) ≤ (l0.length : Int) then ((rewrite_echo.f (l0.drop ((ji13) : Int).toNat)).bind fun t688 => (some ((ji13), t688))) else (none)) else (none)) = some (r1, r2) := by first | (rw [hji13] at H; exact H) | (simp only [hji13] at H ⊢; exact H)
           have hji13w : (IntKind.i64.wrap (4 * (wrap64 (Go.bits .and .u8 (rd l0 0) 15)))) = ji13 := (i64_w _).trans hji13
           by_cases c14 : 0 ≤ (ji13)
           ·rw [if_pos c14] at H
            have c14b0 := eq_true c14
            have c14b1 : decide (0 ≤ (ji13)) = true := decide_eq_true c14
            clear c14
            by_cases c15 : (ji13) ≤ (l0.length : Int)
            ·rw [if_pos c15] at H
             have c15b0 := eq_true c15
             have c15b1 : decide ((ji13) ≤ (l0.length : Int)) = true := decide_eq_true c15
             clear c15
             replace H := Option.bind_eq_some_iff.mp H
             obtain ⟨t688, A160, H⟩ := H
             replace H : (some ((ji13), t688)) = some (r1, r2) := H
             have A16 := Aside0.mk A160
             clear A160
             simp only [Option.some.injEq, Prod.mk.injEq] at H
             obtain ⟨rfl, rfl⟩ := H
             obtain ⟨i017, hi017, _, hsz17, _⟩ := info_parts info5
             obtain ⟨A17, hcut17, hA17, hC17⟩ := print_drop_of (P := Try.prog) (Value.int .u8) 0 23 5 .i64 Try.underlying23 hi017 hsz17 (some ad684) c0 l0 (ji13) (of_decide_eq_true (by first | (with_reducible assumption) | assumption)) (of_decide_eq_true (by first | (with_reducible assumption) | assumption)) HC0.out
             have HR687 := Aside0.mk (Kd.C_of_reads (h1 := fun _ => rfl) (hA17 _ (Kd.reads_of_C HR0.out)))
             have HC687 := Aside0.mk hC17
             clear hA17 hC17 hi017 hsz17
             go_wp2_with (first | ((with_reducible refine gate_callee (f := 114) rfl ?_); refine goesL_ (some 43) rfl rfl Try.func114 (by kernel_rfl) rfl #[.slice A17 (l0.drop ((ji13) : Int).toNat).length (c0 - (ji13).toNat)] rfl (by (try simp only [List.map_toArray, List.map_cons, List.map_nil]); first | done | (rw [show (l0.drop ((ji13) : Int).toNat).length = (l0.length - (ji13).toNat) from List.length_drop] <;> rfl) | (simp only [hji13]; rfl) | rfl | (simp only [List.length_drop, List.length_take]; rfl) | (go_simp; done) | (simp [Act.eval, IntKind.signed]; done) | (simp [Act.eval, IntKind.signed]; rfl)) ?_; (with_reducible refine (rewrite_echo.calls _ _ (l0.drop ((ji13) : Int).toNat) t688 _ ?side1 ?side2 A16.out).mono ?_); (case side1 => exact Kd.C_below HR687.out (bz HB)); (case side2 => exact HC687.out); rintro e w18 ⟨rfl, hb⟩; refine ⟨_, rfl, ?_⟩; have n0_ := Aside0.mk (below_step (bz HB) hb); clear HB; have HB := n0_; clear n0_; (try clear hb); (try clear hb2); (try clear hk); (try clear hi)))
             go_ret2
             exact ⟨by first | rfl | (simp [errW_none, errW_some] <;> rfl) | (simp only [← hji13]; first | rfl | (simp [errW_none, errW_some] <;> rfl)) | (simp [*, errW_none, errW_some] <;> rfl), bz HB⟩
            ·rw [if_neg c15] at H
             exact absurd H (by simp)
           ·rw [if_neg c14] at H
            exact absurd H (by simp)
          ·rw [if_neg c12] at H
           have c12b0 : ((rd l0 9) == 1) = false := beq_eq_false_iff_ne.mpr c12
           have c12b1 : ((rd l0 9) != 1) = true := bne_iff_ne.mpr c12
           simp only [Option.some.injEq, Prod.mk.injEq] at H
           obtain ⟨rfl, rfl⟩ := H
           go_wp2
           go_ret2
           exact ⟨by first | rfl | (simp [errW_none, errW_some] <;> rfl) | (simp [*, errW_none, errW_some] <;> rfl), bz HB⟩
      ·rw [if_neg c8] at H
       exact absurd H (by simp)
  ·rw [if_neg c3] at H
   exact absurd H (by simp)
def rewrite_two.f (l0 : List Int) : Option (Int) := if 0 < (l0.length : Int) then (if 1 < (l0.length : Int) then (some (Go.bits .or .u16 (IntKind.u16.wrap ((IntKind.u16.wrap (rd l0 0)) * 256)) (IntKind.u16.wrap (rd l0 1)))) else (none)) else (none)
theorem rewrite_two.calls (A0 : Option Addr) (c0 : Nat) (l0 : List Int) (r : Int) (w : World) (hr0 : Kd.C (Kd.int .u8) w A0 l0.length l0) (hc0 : l0.length ≤ c0) (h : rewrite_two.f l0 = some r) :
  Calls Try.prog 87 #[.slice A0 l0.length c0] w fun e w' => e = .returned (.int .u16 r) ∧ Drawn0 w w' := by
 have HR0 := Aside0.mk hr0
 have HC0 := Aside0.mk hc0
 clear hr0 hc0
 have H : (if 0 < (l0.length : Int) then (if 1 < (l0.length : Int) then (some (Go.bits .or .u16 (IntKind.u16.wrap ((IntKind.u16.wrap (rd l0 0)) * 256)) (IntKind.u16.wrap (rd l0 1)))) else (none)) else (none)) = some r := h
 clear h
 by_cases c2 : 0 < (l0.length : Int)
 ·rw [if_pos c2] at H
  have c2b0 : decide (0 < (l0.length : Int)) = true := decide_eq_true c2
  have c2b1 : decide (0 < l0.length) = true := decide_eq_true (by omega)
  clear c2
  by_cases c3 : 1 < (l0.length : Int)
  ·rw [if_pos c3] at H
   have c3b0 : decide (1 < (l0.length : Int)) = true := decide_eq_true c3
   have c3b1 : decide (1 < l0.length) = true := decide_eq_true (by omega)
   clear c3
   obtain rfl := Option.some.inj H
   have p689 : 0 ≤ (0 : Int) := (by omega)
   have q689 : 0 < (l0.length : Int) := of_decide_eq_true (by first | (with_reducible assumption) | assumption)
   obtain ⟨ad689, e689, hx689_0⟩ := Kd.at_int HR0.out 0 p689 q689
   cases e689
   have qi689 : (0 < l0.length) = True := eq_true (by omega)
   (try rw [show ((0 : Int)).toNat = 0 from rfl] at hx689_0)
   (try rw [Addr.add_zero'] at hx689_0)
   replace p689 := eq_true p689
   replace q689 := eq_true q689
   have p690 : 0 ≤ (1 : Int) := (by omega)
   have q690 : 1 < (l0.length : Int) := of_decide_eq_true (by first | (with_reducible assumption) | assumption)
   obtain ⟨ad690, e690, hx690_0⟩ := Kd.at_int HR0.out 1 p690 q690
   obtain rfl : ad689 = ad690 := (by injection e690)
   (try simp only [show (1 : Int).toNat = 1 from rfl, Nat.reduceMul, Nat.reduceEqDiff, Go.Addr.add, ↓reduceIte] at hx690_0)
   have qi690 : (1 < l0.length) = True := eq_true (by omega)
   (try rw [show ((1 : Int)).toNat = 1 from rfl] at hx690_0)
   replace p690 := eq_true p690
   replace q690 := eq_true q690
   go_enter Try.func87, Try.ntmps87
   go_wp2
   repeat (go_quiet (fail); try go_wp2)
   go_ret
   exact ⟨by first | rfl | (simp; done) | (simp [*]; done), by repeat (first | exact Drawn0.refl _ | apply Drawn0.step)⟩
  ·rw [if_neg c3] at H
   exact absurd H (by simp)
 ·rw [if_neg c2] at H
  exact absurd H (by simp)
def rewrite_four.f (l0 : List Int) : Option (Int) := (rewrite_two.f l0).bind fun t691 => (if 2 ≤ (l0.length : Int) then ((rewrite_two.f (l0.drop 2)).bind fun t693 => (some (Go.bits .or .u32 ((((t691) % 4294967296) * 65536) % 4294967296) ((t693) % 4294967296)))) else (none))
theorem rewrite_four.calls (A0 : Option Addr) (c0 : Nat) (l0 : List Int) (r : Int) (w : World) (hr0 : Kd.C (Kd.int .u8) w A0 l0.length l0) (hc0 : l0.length ≤ c0) (h : rewrite_four.f l0 = some r) :
  Calls Try.prog 124 #[.slice A0 l0.length c0] w fun e w' => e = .returned (.int .u32 r) ∧ Drawn0 w w' := by
 have HR0 := Aside0.mk hr0
 have HC0 := Aside0.mk hc0
 clear hr0 hc0
 have H : ((rewrite_two.f l0).bind fun t691 => (if 2 ≤ (l0.length : Int) then ((rewrite_two.f (l0.drop 2)).bind fun t693 => (some (Go.bits .or .u32 ((((t691) % 4294967296) * 65536) % 4294967296) ((t693) % 4294967296)))) else (none))) = some r := h
 clear h
 replace H := Option.bind_eq_some_iff.mp H
 obtain ⟨t691, A20, H⟩ := H
 replace H : (if 2 ≤ (l0.length : Int) then ((rewrite_two.f (l0.drop 2)).bind fun t693 => (some (Go.bits .or .u32 ((((t691) % 4294967296) * 65536) % 4294967296) ((t693) % 4294967296)))) else (none)) = some r := H
 have A2 := Aside0.mk A20
 clear A20
 by_cases c3 : 2 ≤ (l0.length : Int)
 ·rw [if_pos c3] at H
  have c3b0 := eq_true c3
  have c3b1 : decide (2 ≤ (l0.length : Int)) = true := decide_eq_true c3
  clear c3
  replace H := Option.bind_eq_some_iff.mp H
  obtain ⟨t693, A40, H⟩ := H
  replace H : (some (Go.bits .or .u32 ((((t691) % 4294967296) * 65536) % 4294967296) ((t693) % 4294967296))) = some r := H
  have A4 := Aside0.mk A40
  clear A40
  obtain rfl := Option.some.inj H
  go_enter Try.func124, Try.ntmps124
  go_wp2_with (first | (go_at_call 87; (with_reducible refine (rewrite_two.calls _ _ l0 t691 _ ?side1 ?side2 A2.out).mono ?_); (case side1 => repeat (first | exact HR0.out | (with_reducible refine Kd.C_alloc ?_ _) | (with_reducible refine Kd.C_drewN ?_ _) | (with_reducible refine Kd.C_drew ?_))); (case side2 => exact HC0.out); rintro e w' ⟨rfl, ⟨nd, rfl⟩⟩; (try first | exact ⟨rfl, _, World.drewN_drewN _ _ _⟩ | exact ⟨rfl, _, Eq.trans (World.drewN_drewN _ _ _) (congrArg (World.drewN _) (Nat.add_assoc _ _ _))⟩); obtain ⟨i05, hi05, _, hsz5, _⟩ := info_parts info5; obtain ⟨A5, hcut5, hA5, hC5⟩ := print_drop_of (P := Try.prog) (Value.int .u8) 0 23 5 .i64 Try.underlying23 hi05 hsz5 A0 c0 l0 2 (by omega) (of_decide_eq_true (by first | (with_reducible assumption) | assumption)) HC0.out; have HR692 := Aside0.mk (Kd.C_of_reads (h1 := fun _ => rfl) (hA5 _ (Kd.reads_of_C HR0.out))); have HC692 := Aside0.mk hC5; clear hA5 hC5 hi05 hsz5) | (go_at_call 87; refine calls_of_args (args' := #[.slice A5 (l0.drop 2).length (c0 - 2)]) (by first | (rw [show (l0.drop 2).length = (l0.length - 2) from List.length_drop]; done) | rfl | (simp; done)) ?_; (with_reducible refine (rewrite_two.calls _ _ (l0.drop 2) t693 _ ?side1 ?side2 A4.out).mono ?_); (case side1 => repeat (first | exact HR692.out | (with_reducible refine Kd.C_alloc ?_ _) | (with_reducible refine Kd.C_drewN ?_ _) | (with_reducible refine Kd.C_drew ?_))); (case side2 => exact HC692.out); rintro e w' ⟨rfl, ⟨nd, rfl⟩⟩; (try first | exact ⟨rfl, _, World.drewN_drewN _ _ _⟩ | exact ⟨rfl, _, Eq.trans (World.drewN_drewN _ _ _) (congrArg (World.drewN _) (Nat.add_assoc _ _ _))⟩)))
  repeat (go_quiet (first | (go_at_call 87; (with_reducible refine (rewrite_two.calls _ _ l0 t691 _ ?side1 ?side2 A2.out).mono ?_); (case side1 => repeat (first | exact HR0.out | (with_reducible refine Kd.C_alloc ?_ _) | (with_reducible refine Kd.C_drewN ?_ _) | (with_reducible refine Kd.C_drew ?_))); (case side2 => exact HC0.out); rintro e w' ⟨rfl, ⟨nd, rfl⟩⟩; (try first | exact ⟨rfl, _, World.drewN_drewN _ _ _⟩ | exact ⟨rfl, _, Eq.trans (World.drewN_drewN _ _ _) (congrArg (World.drewN _) (Nat.add_assoc _ _ _))⟩); obtain ⟨i05, hi05, _, hsz5, _⟩ := info_parts info5; obtain ⟨A5, hcut5, hA5, hC5⟩ := print_drop_of (P := Try.prog) (Value.int .u8) 0 23 5 .i64 Try.underlying23 hi05 hsz5 A0 c0 l0 2 (by omega) (of_decide_eq_true (by first | (with_reducible assumption) | assumption)) HC0.out; have HR692 := Aside0.mk (Kd.C_of_reads (h1 := fun _ => rfl) (hA5 _ (Kd.reads_of_C HR0.out))); have HC692 := Aside0.mk hC5; clear hA5 hC5 hi05 hsz5) | (go_at_call 87; refine calls_of_args (args' := #[.slice A5 (l0.drop 2).length (c0 - 2)]) (by first | (rw [show (l0.drop 2).length = (l0.length - 2) from List.length_drop]; done) | rfl | (simp; done)) ?_; (with_reducible refine (rewrite_two.calls _ _ (l0.drop 2) t693 _ ?side1 ?side2 A4.out).mono ?_); (case side1 => repeat (first | exact HR692.out | (with_reducible refine Kd.C_alloc ?_ _) | (with_reducible refine Kd.C_drewN ?_ _) | (with_reducible refine Kd.C_drew ?_))); (case side2 => exact HC692.out); rintro e w' ⟨rfl, ⟨nd, rfl⟩⟩; (try first | exact ⟨rfl, _, World.drewN_drewN _ _ _⟩ | exact ⟨rfl, _, Eq.trans (World.drewN_drewN _ _ _) (congrArg (World.drewN _) (Nat.add_assoc _ _ _))⟩))); try go_wp2_with (first | (go_at_call 87; (with_reducible refine (rewrite_two.calls _ _ l0 t691 _ ?side1 ?side2 A2.out).mono ?_); (case side1 => repeat (first | exact HR0.out | (with_reducible refine Kd.C_alloc ?_ _) | (with_reducible refine Kd.C_drewN ?_ _) | (with_reducible refine Kd.C_drew ?_))); (case side2 => exact HC0.out); rintro e w' ⟨rfl, ⟨nd, rfl⟩⟩; (try first | exact ⟨rfl, _, World.drewN_drewN _ _ _⟩ | exact ⟨rfl, _, Eq.trans (World.drewN_drewN _ _ _) (congrArg (World.drewN _) (Nat.add_assoc _ _ _))⟩); obtain ⟨i05, hi05, _, hsz5, _⟩ := info_parts info5; obtain ⟨A5, hcut5, hA5, hC5⟩ := print_drop_of (P := Try.prog) (Value.int .u8) 0 23 5 .i64 Try.underlying23 hi05 hsz5 A0 c0 l0 2 (by omega) (of_decide_eq_true (by first | (with_reducible assumption) | assumption)) HC0.out; have HR692 := Aside0.mk (Kd.C_of_reads (h1 := fun _ => rfl) (hA5 _ (Kd.reads_of_C HR0.out))); have HC692 := Aside0.mk hC5; clear hA5 hC5 hi05 hsz5) | (go_at_call 87; refine calls_of_args (args' := #[.slice A5 (l0.drop 2).length (c0 - 2)]) (by first | (rw [show (l0.drop 2).length = (l0.length - 2) from List.length_drop]; done) | rfl | (simp; done)) ?_; (with_reducible refine (rewrite_two.calls _ _ (l0.drop 2) t693 _ ?side1 ?side2 A4.out).mono ?_); (case side1 => repeat (first | exact HR692.out | (with_reducible refine Kd.C_alloc ?_ _) | (with_reducible refine Kd.C_drewN ?_ _) | (with_reducible refine Kd.C_drew ?_))); (case side2 => exact HC692.out); rintro e w' ⟨rfl, ⟨nd, rfl⟩⟩; (try first | exact ⟨rfl, _, World.drewN_drewN _ _ _⟩ | exact ⟨rfl, _, Eq.trans (World.drewN_drewN _ _ _) (congrArg (World.drewN _) (Nat.add_assoc _ _ _))⟩))))
  go_ret
  exact ⟨by first | rfl | (simp; done) | (simp [*]; done), by repeat (first | exact Drawn0.refl _ | apply Drawn0.step)⟩
 ·rw [if_neg c3] at H
  exact absurd H (by simp)
def rewrite_inner.f (k : Nat) (l0 : List Int) : Option ((List (S65)) × Bool) := (rewrite_within.f k l0).bind fun bt694 => (if bt694.2 = true then (if 0 ≤ bt694.1 then (if bt694.1 ≤ (l0.length : Int) then ((rewrite_two.f (l0.drop (bt694.1 : Int).toNat)).bind fun t697 => (if 0 ≤ (wrap64 (bt694.1 + 2)) then (if (wrap64 (bt694.1 + 2)) ≤ (l0.length : Int) then ((rewrite_two.f (l0.drop ((wrap64 (bt694.1 + 2)) : Int).toNat)).bind fun t699 => (if 9 < (l0.length : Int) then (if (rd l0 9) = 1 then (if 0 ≤ (wrap64 (bt694.1 + 4)) then (if (wrap64 (bt694.1 + 4)) ≤ (l0.length : Int) then ((rewrite_two.f (l0.drop ((wrap64 (bt694.1 + 4)) : Int).toNat)).bind fun t702 => (if 12 ≤ (l0.length : Int) then ((rewrite_four.f (l0.drop 12)).bind fun t704 => (if 16 ≤ (l0.length : Int) then ((rewrite_four.f (l0.drop 16)).bind fun t706 => (some ((([(⟨t704, t702⟩ : S65), (⟨t706, t702⟩ : S65)] : List (S65))), true))) else (none))) else (none))) else (none)) else (none)) else (if 12 ≤ (l0.length : Int) then ((rewrite_four.f (l0.drop 12)).bind fun t711 => (if 16 ≤ (l0.length : Int) then ((rewrite_four.f (l0.drop 16)).bind fun t713 => (some ((([(⟨t711, t697⟩ : S65), (⟨t713, t699⟩ : S65)] : List (S65))), true))) else (none))) else (none))) else (none))) else (none)) else (none))) else (none)) else (none)) else (some (([] : List (S65)), false)))
def rewrite_inner.T4 : Bool × List (List Nat × List Nat) := (true, [([], []), ([], []), ([0, 1], [0, 1]), ([2], [2]), ([], []), ([], []), ([5], [5]), ([4, 6], [4, 6]), ([7, 3], [7]), ([3, 8, 0, 1, 2, 3], [3]), ([8, 9, 0, 1, 2, 3, 4, 5, 6, 7, 8, 9], [8])])
def rewrite_inner.B4 : List Nat := [0, 0, 3, 7, 0, 0, 32, 112, 255, 511, 1023]
theorem rewrite_inner.tab4 : rtab .any (opsOf Try.f104 4) = rewrite_inner.T4 := by kernel_rfl
theorem rewrite_inner.bits4 : waitsOk rewrite_inner.T4.2 rewrite_inner.B4 = true := by kernel_rfl
def rewrite_inner.T8 : Bool × List (List Nat × List Nat) := (true, [([], []), ([0], [0]), ([1], [1]), ([], []), ([2, 3], [2, 3]), ([], []), ([5], [5]), ([6, 2], [6]), ([], []), ([7, 8], [7, 8]), ([4, 9], [4, 9]), ([10, 7, 0, 1, 2, 3, 4, 5, 6, 7, 8, 9, 10], [10]), ([11, 0, 1, 2, 3, 4, 5, 6, 7, 8, 9, 10, 11], [])])
def rewrite_inner.B8 : List Nat := [0, 1, 3, 0, 15, 0, 32, 103, 0, 487, 1023, 2047, 4095]
theorem rewrite_inner.tab8 : rtab .any (opsOf Try.f104 8) = rewrite_inner.T8 := by kernel_rfl
theorem rewrite_inner.bits8 : waitsOk rewrite_inner.T8.2 rewrite_inner.B8 = true := by kernel_rfl
theorem rewrite_inner.calls (k : Nat) (A0 : Option Addr) (c0 : Nat) (l0 : List Int) (r1 : List (S65)) (r2 : Bool) (w : World) (hr0 : Kd.C (Kd.int .u8) w A0 l0.length l0) (hc0 : l0.length ≤ c0) (h : rewrite_inner.f k l0 = some (r1, r2)) :
  Calls Try.prog 104 #[.slice A0 l0.length c0] w fun e w' => ∃ v0_ : Value, e = .returned (.tuple #[v0_, .bool r2]) ∧ Kd.R k65 65 w' w.heap.size (fun _ => True) v0_ r1 ∧ Below w.heap.size w w' := by
 have hu65 := Try.underlying65
 have HR0 := Aside0.mk hr0
 have HC0 := Aside0.mk hc0
 clear hr0 hc0
 have HB := Aside0.mk (Below.refl w.heap.size w)
 have H : ((rewrite_within.f k l0).bind fun bt694 => (if bt694.2 = true then (if 0 ≤ bt694.1 then (if bt694.1 ≤ (l0.length : Int) then ((rewrite_two.f (l0.drop (bt694.1 : Int).toNat)).bind fun t697 => (if 0 ≤ (wrap64 (bt694.1 + 2)) then (if (wrap64 (bt694.1 + 2)) ≤ (l0.length : Int) then ((rewrite_two.f (l0.drop ((wrap64 (bt694.1 + 2)) : Int).toNat)).bind fun t699 => (if 9 < (l0.length : Int) then (if (rd l0 9) = 1 then (if 0 ≤ (wrap64 (bt694.1 + 4)) then (if (wrap64 (bt694.1 + 4)) ≤ (l0.length : Int) then ((rewrite_two.f (l0.drop ((wrap64 (bt694.1 + 4)) : Int).toNat)).bind fun t702 => (if 12 ≤ (l0.length : Int) then ((rewrite_four.f (l0.drop 12)).bind fun t704 => (if 16 ≤ (l0.length : Int) then ((rewrite_four.f (l0.drop 16)).bind fun t706 => (some ((([(⟨t704, t702⟩ : S65), (⟨t706, t702⟩ : S65)] : List (S65))), true))) else (none))) else (none))) else (none)) else (none)) else (if 12 ≤ (l0.length : Int) then ((rewrite_four.f (l0.drop 12)).bind fun t711 => (if 16 ≤ (l0.length : Int) then ((rewrite_four.f (l0.drop 16)).bind fun t713 => (some ((([(⟨t711, t697⟩ : S65), (⟨t713, t699⟩ : S65)] : List (S65))), true))) else (none))) else (none))) else (none))) else (none)) else (none))) else (none)) else (none)) else (some (([] : List (S65)), false)))) = some (r1, r2) := h
 clear h
 replace H := Option.bind_eq_some_iff.mp H
 obtain ⟨⟨t694, t695⟩, A20, H⟩ := H
 replace H : (if t695 = true then (if 0 ≤ t694 then (if t694 ≤ (l0.length : Int) then ((rewrite_two.f (l0.drop (t694 : Int).toNat)).bind fun t697 => (if 0 ≤ (wrap64 (t694 + 2)) then (if (wrap64 (t694 + 2)) ≤ (l0.length : Int) then ((rewrite_two.f (l0.drop ((wrap64 (t694 + 2)) : Int).toNat)).bind fun t699 => (if 9 < (l0.length : Int) then (if (rd l0 9) = 1 then (if 0 ≤ (wrap64 (t694 + 4)) then (if (wrap64 (t694 + 4)) ≤ (l0.length : Int) then ((rewrite_two.f (l0.drop ((wrap64 (t694 + 4)) : Int).toNat)).bind fun t702 => (if 12 ≤ (l0.length : Int) then ((rewrite_four.f (l0.drop 12)).bind fun t704 => (if 16 ≤ (l0.length : Int) then ((rewrite_four.f (l0.drop 16)).bind fun t706 => (some ((([(⟨t704, t702⟩ : S65), (⟨t706, t702⟩ : S65)] : List (S65))), true))) else (none))) else (none))) else (none)) else (none)) else (if 12 ≤ (l0.length : Int) then ((rewrite_four.f (l0.drop 12)).bind fun t711 => (if 16 ≤ (l0.length : Int) then ((rewrite_four.f (l0.drop 16)).bind fun t713 => (some ((([(⟨t711, t697⟩ : S65), (⟨t713, t699⟩ : S65)] : List (S65))), true))) else (none))) else (none))) else (none))) else (none)) else (none))) else (none)) else (none)) else (some (([] : List (S65)), false))) = some (r1, r2) := H
 have A2 := Aside0.mk A20
 clear A20
 by_cases c3 : t695 = true
 ·subst c3
  have H1 : (if 0 ≤ t694 then (if t694 ≤ (l0.length : Int) then ((rewrite_two.f (l0.drop (t694 : Int).toNat)).bind fun t697 => (if 0 ≤ (wrap64 (t694 + 2)) then (if (wrap64 (t694 + 2)) ≤ (l0.length : Int) then ((rewrite_two.f (l0.drop ((wrap64 (t694 + 2)) : Int).toNat)).bind fun t699 => (if 9 < (l0.length : Int) then (if (rd l0 9) = 1 then (if 0 ≤ (wrap64 (t694 + 4)) then (if (wrap64 (t694 + 4)) ≤ (l0.length : Int) then ((rewrite_two.f (l0.drop ((wrap64 (t694 + 4)) : Int).toNat)).bind fun t702 => (if 12 ≤ (l0.length : Int) then ((rewrite_four.f (l0.drop 12)).bind fun t704 => (if 16 ≤ (l0.length : Int) then ((rewrite_four.f (l0.drop 16)).bind fun t706 => (some ((([(⟨t704, t702⟩ : S65), (⟨t706, t702⟩ : S65)] : List (S65))), true))) else (none))) else (none))) else (none)) else (none)) else (if 12 ≤ (l0.length : Int) then ((rewrite_four.f (l0.drop 12)).bind fun t711 => (if 16 ≤ (l0.length : Int) then ((rewrite_four.f (l0.drop 16)).bind fun t713 => (some ((([(⟨t711, t697⟩ : S65), (⟨t713, t699⟩ : S65)] : List (S65))), true))) else (none))) else (none))) else (none))) else (none)) else (none))) else (none)) else (none)) = some (r1, r2) := by rw [if_pos rfl] at H; exact H
  clear H
  have H := H1
  clear H1
  by_cases c4 : 0 ≤ t694
  ·rw [if_pos c4] at H
   have c4b0 := eq_true c4
   have c4b1 : decide (0 ≤ t694) = true := decide_eq_true c4
   clear c4
   by_cases c5 : t694 ≤ (l0.length : Int)
   ·rw [if_pos c5] at H
    have c5b0 := eq_true c5
    have c5b1 : decide (t694 ≤ (l0.length : Int)) = true := decide_eq_true c5
    clear c5
    replace H := Option.bind_eq_some_iff.mp H
    obtain ⟨t697, A60, H⟩ := H
    replace H : (if 0 ≤ (wrap64 (t694 + 2)) then (if (wrap64 (t694 + 2)) ≤ (l0.length : Int) then ((rewrite_two.f (l0.drop ((wrap64 (t694 + 2)) : Int).toNat)).bind fun t699 => (if 9 < (l0.length : Int) then (if (rd l0 9) = 1 then (if 0 ≤ (wrap64 (t694 + 4)) then (if (wrap64 (t694 + 4)) ≤ (l0.length : Int) then ((rewrite_two.f (l0.drop ((wrap64 (t694 + 4)) : Int).toNat)).bind fun t702 => (if 12 ≤ (l0.length : Int) then ((rewrite_four.f (l0.drop 12)).bind fun t704 => (if 16 ≤ (l0.length : Int) then ((rewrite_four.f (l0.drop 16)).bind fun t706 => (some ((([(⟨t704, t702⟩ : S65), (⟨t706, t702⟩ : S65)] : List (S65))), true))) else (none))) else (none))) else (none)) else (none)) else (if 12 ≤ (l0.length : Int) then ((rewrite_four.f (l0.drop 12)).bind fun t711 => (if 16 ≤ (l0.length : Int) then ((rewrite_four.f (l0.drop 16)).bind fun t713 => (some ((([(⟨t711, t697⟩ : S65), (⟨t713, t699⟩ : S65)] : List (S65))), true))) else (none))) else (none))) else (none))) else (none)) else (none)) = some (r1, r2) := H
    have A6 := Aside0.mk A60
    clear A60
    obtain ⟨ji7, hji7⟩ : ∃ j_ : Int, (wrap64 (t694 + 2)) = j_ := ⟨_, rfl⟩
    replace H : (if 0 ≤ (ji7) then (if (ji7) ≤ (l0.length : Int) then ((rewrite_two.f (l0.drop ((ji7) : Int).toNat)).bind fun t699 => (if 9 < (l0.length : Int) then (if (rd l0 9) = 1 then (if 0 ≤ (wrap64 (t694 + 4)) then (if (wrap64 (t694 + 4)) ≤ (l0.length : Int) then ((rewrite_two.f (l0.drop ((wrap64 (t694 + 4)) : Int).toNat)).bind fun t702 => (if 12 ≤ (l0.length : Int) then ((rewrite_four.f (l0.drop 12)).bind fun t704 => (if 16 ≤ (l0.length : Int) then ((rewrite_four.f (l0.drop 16)).bind fun t706 => (some ((([(⟨t704, t702⟩ : S65), (⟨t706, t702⟩ : S65)] : List (S65))), true))) else (none))) else (none))) else (none)) else (none)) else (if 12 ≤ (l0.length : Int) then ((rewrite_four.f (l0.drop 12)).bind fun t711 => (if 16 ≤ (l0.length : Int) then ((rewrite_four.f (l0.drop 16)).bind fun t713 => (some ((([(⟨t711, t697⟩ : S65), (⟨t713, t699⟩ : S65)] : List (S65))), true))) else (none))) else (none))) else (none))) else (none)) else (none)) = some (r1, r2) := by first | (rw [hji7] at H; exact H) | (simp only [hji7] at H ⊢; exact H)
    (try rw [hji7] at A2)
    (try rw [hji7] at A6)
    have hji7w : (IntKind.i64.wrap (t694 + 2)) = ji7 := (i64_w _).trans hji7
    by_cases c8 : 0 ≤ (ji7)
    ·rw [if_pos c8] at H
     have c8b0 := eq_true c8
     have c8b1 : decide (0 ≤ (ji7)) = true := decide_eq_true c8
     clear c8
     by_cases c9 : (ji7) ≤ (l0.length : Int)
     ·rw [if_pos c9] at H
      have c9b0 := eq_true c9
      have c9b1 : decide ((ji7) ≤ (l0.length : Int)) = true := decide_eq_true c9
      clear c9
      replace H := Option.bind_eq_some_iff.mp H
      obtain ⟨t699, A100, H⟩ := H
      replace H : (if 9 < (l0.length : Int) then (if (rd l0 9) = 1 then (if 0 ≤ (wrap64 (t694 + 4)) then (if (wrap64 (t694 + 4)) ≤ (l0.length : Int) then ((rewrite_two.f (l0.drop ((wrap64 (t694 + 4)) : Int).toNat)).bind fun t702 => (if 12 ≤ (l0.length : Int) then ((rewrite_four.f (l0.drop 12)).bind fun t704 => (if 16 ≤ (l0.length : Int) then ((rewrite_four.f (l0.drop 16)).bind fun t706 => (some ((([(⟨t704, t702⟩ : S65), (⟨t706, t702⟩ : S65)] : List (S65))), true))) else (none))) else (none))) else (none)) else (none)) else (if 12 ≤ (l0.length : Int) then ((rewrite_four.f (l0.drop 12)).bind fun t711 => (if 16 ≤ (l0.length : Int) then ((rewrite_four.f (l0.drop 16)).bind fun t713 => (some ((([(⟨t711, t697⟩ : S65), (⟨t713, t699⟩ : S65)] : List (S65))), true))) else (none))) else (none))) else (none)) = some (r1, r2) := H
      have A10 := Aside0.mk A100
      clear A100
      by_cases c11 : 9 < (l0.length : Int)
      ·rw [if_pos c11] at H
       have c11b0 : decide (9 < (l0.length : Int)) = true := decide_eq_true c11
       have c11b1 : decide (9 < l0.length) = true := decide_eq_true (by omega)
       clear c11
       by_cases c12 : (rd l0 9) = 1
       ·rw [if_pos c12] at H
        have c12b0 : ((rd l0 9) == 1) = true := beq_iff_eq.mpr c12
        have c12b1 : ((rd l0 9) != 1) = false := bne_eq_false_iff_eq.mpr c12
        clear c12
        obtain ⟨ji13, hji13⟩ : ∃ j_ : Int, (wrap64 (t694 + 4)) = j_ := ⟨_, rfl⟩
        replace H : (if 0 ≤ (ji13) then (if (ji13) ≤ (l0.length : Int) then ((rewrite_two.f (l0.drop ((ji13) : Int).toNat)).bind fun t702 => (if 12 ≤ (l0.length : Int) then ((rewrite_four.f (l0.drop 12)).bind fun t704 => (if 16 ≤ (l0.length : Int) then ((rewrite_four.f (l0.drop 16)).bind fun t706 => (some ((([(⟨t704, t702⟩ : S65), (⟨t706, t702⟩ : S65)] : List (S65))), true))) else (none))) else (none))) else (none)) else (none)) = some (r1, r2) := by first | (rw [hji13] at H; exact H) | (simp only [hji13] at H ⊢; exact H)
        (try rw [hji13] at A2)
        (try rw [hji13] at A6)
        (try rw [hji13] at A10)
        have hji13w : (IntKind.i64.wrap (t694 + 4)) = ji13 := (i64_w _).trans hji13
        by_cases c14 : 0 ≤ (ji13)
        ·rw [if_pos c14] at H
         have c14b0 := eq_true c14
         have c14b1 : decide (0 ≤ (ji13)) = true := decide_eq_true c14
         clear c14
         by_cases c15 : (ji13) ≤ (l0.length : Int)
         ·rw [if_pos c15] at H
          have c15b0 := eq_true c15
          have c15b1 : decide ((ji13) ≤ (l0.length : Int)) = true := decide_eq_true c15
          clear c15
          replace H := Option.bind_eq_some_iff.mp H
          obtain ⟨t702, A160, H⟩ := H
          replace H : (if 12 ≤ (l0.length : Int) then ((rewrite_four.f (l0.drop 12)).bind fun t704 => (if 16 ≤ (l0.length : Int) then ((rewrite_four.f (l0.drop 16)).bind fun t706 => (some ((([(⟨t704, t702⟩ : S65), (⟨t706, t702⟩ : S65)] : List (S65))), true))) else (none))) else (none)) = some (r1, r2) := H
          have A16 := Aside0.mk A160
          clear A160
          by_cases c17 : 12 ≤ (l0.length : Int)
          ·rw [if_pos c17] at H
           have c17b0 := eq_true c17
           have c17b1 : decide (12 ≤ (l0.length : Int)) = true := decide_eq_true c17
           clear c17
           replace H := Option.bind_eq_some_iff.mp H
           obtain ⟨t704, A180, H⟩ := H
           replace H : (if 16 ≤ (l0.length : Int) then ((rewrite_four.f (l0.drop 16)).bind fun t706 => (some ((([(⟨t704, t702⟩ : S65), (⟨t706, t702⟩ : S65)] : List (S65))), true))) else (none)) = some (r1, r2) := H
           have A18 := Aside0.mk A180
           clear A180
           by_cases c19 : 16 ≤ (l0.length : Int)
           ·rw [if_pos c19] at H
            have c19b0 := eq_true c19
            have c19b1 : decide (16 ≤ (l0.length : Int)) = true := decide_eq_true c19
            clear c19
            replace H := Option.bind_eq_some_iff.mp H
            obtain ⟨t706, A200, H⟩ := H
            replace H : (some ((([(⟨t704, t702⟩ : S65), (⟨t706, t702⟩ : S65)] : List (S65))), true)) = some (r1, r2) := H
            have A20 := Aside0.mk A200
            clear A200
            obtain ⟨y707, hy707⟩ : ∃ y_ : List (S65), y_ = (([(⟨t704, t702⟩ : S65), (⟨t706, t702⟩ : S65)] : List (S65))) := ⟨_, rfl⟩
            replace H : (some (y707, true)) = some (r1, r2) := by first | (rw [hy707]; with_reducible exact H) | (have H2_ := (Option.bind_some _ _).symm.trans H; rw [hy707]; with_reducible exact H2_) | (have H2_ := (Option.bind_some _ _).symm.trans H; with_reducible exact H2_) | with_reducible exact H | (rw [hy707]; exact H) | exact H
            have Ny707 := Aside0.mk hy707
            clear hy707
            simp only [Option.some.injEq, Prod.mk.injEq] at H
            obtain ⟨rfl, rfl⟩ := H
            go_enter Try.func104, Try.ntmps104
            try go_wp2_with (first | ((with_reducible refine gate_callee (f := 86) rfl ?_); refine gL 10 Try.func86 #[.slice A0 l0.length c0] ?_; (with_reducible refine (rewrite_within.calls k _ _ l0 t694 true _ ?side1 ?side2 A2.out).mono ?_); (case side1 => repeat (first | exact HR0.out | (with_reducible refine Kd.C_alloc ?_ _) | (with_reducible refine Kd.C_drewN ?_ _) | (with_reducible refine Kd.C_drew ?_))); (case side2 => exact HC0.out); rintro e w21 ⟨rfl, hb⟩; refine ⟨_, rfl, ?_⟩; have n0_ := Aside0.mk (below_step (bz HB) hb); clear HB; have HB := n0_; clear n0_; (try clear hb); (try clear hb2); (try clear hk); (try clear hi)))
            have n0_ := Aside0.mk (below_drew1 HB.out)
            clear HB
            have HB := n0_
            clear n0_
            obtain ⟨i023, hi023, _, hsz23, _⟩ := info_parts info5
            obtain ⟨A23, hcut23, hA23, hC23⟩ := print_drop_of (P := Try.prog) (Value.int .u8) 0 23 5 .i64 Try.underlying23 hi023 hsz23 A0 c0 l0 t694 (of_decide_eq_true (by first | (with_reducible assumption) | assumption)) (of_decide_eq_true (by first | (with_reducible assumption) | assumption)) HC0.out
            have HR696 := Aside0.mk (Kd.C_of_reads (h1 := fun _ => rfl) (hA23 _ (Kd.reads_of_C HR0.out)))
            have HC696 := Aside0.mk hC23
            clear hA23 hC23 hi023 hsz23
            obtain ⟨i024, hi024, _, hsz24, _⟩ := info_parts info5
            obtain ⟨A24, hcut24, hA24, hC24⟩ := print_drop_of (P := Try.prog) (Value.int .u8) 0 23 5 .i64 Try.underlying23 hi024 hsz24 A0 c0 l0 (ji7) (of_decide_eq_true (by first | (with_reducible assumption) | assumption)) (of_decide_eq_true (by first | (with_reducible assumption) | assumption)) HC0.out
            have HR698 := Aside0.mk (Kd.C_of_reads (h1 := fun _ => rfl) (hA24 _ (Kd.reads_of_C HR0.out)))
            have HC698 := Aside0.mk hC24
            clear hA24 hC24 hi024 hsz24
            refine start_ (n := 11) (S := fun w' => True) (ds := []) #[false, false, false, false, false, false, false, false, false, false, false] (by kernel_rfl) rfl rfl trivial (fun hHeld => ?_); refine with_tabW rewrite_inner.tab4 rewrite_inner.bits4 (fun HT_ HW_ => ?_)
            generalize w21.drew = w22 at HB HR696 HR698 hHeld ⊢
            refine pz 0 15 HT_ ?_
            refine pz 1 16 HT_ ?_
            refine pz 2 17 HT_ ?_
            refine pz 4 19 HT_ ?_
            refine pz 5 20 HT_ ?_
            refine pz 6 21 HT_ ?_
            refine pz 7 22 HT_ ?_
            refine oz 3 (some 18) HT_ (fun K hK => ?_)
            refine goes_ Try.func87 (by kernel_rfl) rfl #[.slice A23 (l0.drop (t694 : Int).toNat).length (c0 - t694.toNat)] (by rfl) rfl rfl (by (try simp only [List.map_toArray, List.map_cons, List.map_nil]); first | done | (rw [show (l0.drop (t694 : Int).toNat).length = (l0.length - t694.toNat) from List.length_drop] <;> rfl) | rfl | (simp only [List.length_drop, List.length_take]; rfl) | (go_simp; done) | (simp [Act.eval, IntKind.signed]; done) | (simp [Act.eval, IntKind.signed]; rfl)) ?_
            with_reducible refine (rewrite_two.calls _ _ (l0.drop (t694 : Int).toNat) t697 _ ?side1 ?side2 A6.out).mono ?_
            (case side1 => exact Kd.C_below HR696.out (bz HB))
            (case side2 => exact HC696.out)
            rintro e w' ⟨rfl, ⟨nd, rfl⟩⟩
            refine ⟨_, rfl, ?_⟩
            refine hK.out _ _ trivial (fun hHeld => ?_)
            clear hK K
            refine nz 18 ?_
            refine oz 8 (some 23) HT_ (fun K hK => ?_)
            refine goes_ Try.func87 (by kernel_rfl) rfl #[.slice A24 (l0.drop ((ji7) : Int).toNat).length (c0 - (ji7).toNat)] (by rfl) rfl rfl (by (try simp only [List.map_toArray, List.map_cons, List.map_nil]); first | done | (rw [show (l0.drop ((ji7) : Int).toNat).length = (l0.length - (ji7).toNat) from List.length_drop] <;> rfl) | (simp only [hji7]; rfl) | rfl | (simp only [List.length_drop, List.length_take]; rfl) | (go_simp; done) | (simp [Act.eval, IntKind.signed]; done) | (simp [Act.eval, IntKind.signed]; rfl)) ?_
            with_reducible refine (rewrite_two.calls _ _ (l0.drop ((ji7) : Int).toNat) t699 _ ?side1 ?side2 A10.out).mono ?_
            (case side1 => exact Kd.C_below HR698.out (bz HB))
            (case side2 => exact HC698.out)
            rintro e w' ⟨rfl, ⟨nd, rfl⟩⟩
            refine ⟨_, rfl, ?_⟩
            refine hK.out _ _ trivial (fun hHeld => ?_)
            clear hK K
            refine nz 23 ?_
            refine pz 9 6 HT_ ?_
            refine pz 10 7 HT_ ?_
            refine dz HT_ ?_
            have p700 : 0 ≤ (9 : Int) := (by omega)
            have q700 : 9 < (l0.length : Int) := of_decide_eq_true (by first | (with_reducible assumption) | assumption)
            obtain ⟨ad700, e700, hx700_0⟩ := Kd.at_int HR0.out 9 p700 q700
            cases e700
            (try simp only [show (9 : Int).toNat = 9 from rfl, Nat.reduceMul, Nat.reduceEqDiff, Go.Addr.add, ↓reduceIte] at hx700_0)
            have qi700 : (9 < l0.length) = True := eq_true (by omega)
            (try rw [show ((9 : Int)).toNat = 9 from rfl] at hx700_0)
            replace hx700_0 := (HB.out.cell (World.block_lt_of_cell? w _ hx700_0)).trans hx700_0
            replace p700 := eq_true p700
            replace q700 := eq_true q700
            obtain ⟨i025, hi025, _, hsz25, _⟩ := info_parts info5
            obtain ⟨A25, hcut25, hA25, hC25⟩ := print_drop_of (P := Try.prog) (Value.int .u8) 0 23 5 .i64 Try.underlying23 hi025 hsz25 (some ad700) c0 l0 (ji13) (of_decide_eq_true (by first | (with_reducible assumption) | assumption)) (of_decide_eq_true (by first | (with_reducible assumption) | assumption)) HC0.out
            have HR701 := Aside0.mk (Kd.C_of_reads (h1 := fun _ => rfl) (hA25 _ (Kd.reads_of_C HR0.out)))
            have HC701 := Aside0.mk hC25
            clear hA25 hC25 hi025 hsz25
            try go_wp2_with (first | ((with_reducible refine gate_callee (f := 87) rfl ?_); refine goesL_ (some 32) rfl rfl Try.func87 (by kernel_rfl) rfl #[.slice A25 (l0.drop ((ji13) : Int).toNat).length (c0 - (ji13).toNat)] rfl (by (try simp only [List.map_toArray, List.map_cons, List.map_nil]); first | done | (rw [show (l0.drop ((ji13) : Int).toNat).length = (l0.length - (ji13).toNat) from List.length_drop] <;> rfl) | (simp only [hji13]; rfl) | rfl | (simp only [List.length_drop, List.length_take]; rfl) | (go_simp; done) | (simp [Act.eval, IntKind.signed]; done) | (simp [Act.eval, IntKind.signed]; rfl)) ?_; (with_reducible refine (rewrite_two.calls _ _ (l0.drop ((ji13) : Int).toNat) t702 _ ?side1 ?side2 A16.out).mono ?_); (case side1 => exact Kd.C_below HR701.out (bz HB)); (case side2 => exact HC701.out); rintro e w' ⟨rfl, ⟨nd, rfl⟩⟩; refine ⟨_, rfl, ?_⟩))
            (try (rw [drewN_self w22]; generalize hq_ : World.drewN w22 _ = w22; have n0_ : Aside0 (Below w.heap.size w w22) := ⟨by rw [← hq_]; exact bz HB⟩; clear HB hq_; have HB := n0_; clear n0_))
            have n0_ := Aside0.mk (below_drew1 HB.out)
            clear HB
            have HB := n0_
            clear n0_
            obtain ⟨i027, hi027, _, hsz27, _⟩ := info_parts info5
            obtain ⟨A27, hcut27, hA27, hC27⟩ := print_drop_of (P := Try.prog) (Value.int .u8) 0 23 5 .i64 Try.underlying23 hi027 hsz27 (some ad700) c0 l0 12 (by omega) (of_decide_eq_true (by first | (with_reducible assumption) | assumption)) HC0.out
            have HR703 := Aside0.mk (Kd.C_of_reads (h1 := fun _ => rfl) (hA27 _ (Kd.reads_of_C HR0.out)))
            have HC703 := Aside0.mk hC27
            clear hA27 hC27 hi027 hsz27
            obtain ⟨i028, hi028, _, hsz28, _⟩ := info_parts info5
            obtain ⟨A28, hcut28, hA28, hC28⟩ := print_drop_of (P := Try.prog) (Value.int .u8) 0 23 5 .i64 Try.underlying23 hi028 hsz28 (some ad700) c0 l0 16 (by omega) (of_decide_eq_true (by first | (with_reducible assumption) | assumption)) HC0.out
            have HR705 := Aside0.mk (Kd.C_of_reads (h1 := fun _ => rfl) (hA28 _ (Kd.reads_of_C HR0.out)))
            have HC705 := Aside0.mk hC28
            clear hA28 hC28 hi028 hsz28
            refine start_ (n := 13) (S := fun w' => True) (ds := []) #[false, false, false, false, false, false, false, false, false, false, false, false, false] (by kernel_rfl) rfl rfl trivial (fun hHeld => ?_); refine with_tabW rewrite_inner.tab8 rewrite_inner.bits8 (fun HT_ HW_ => ?_)
            generalize w22.drew = w26 at HB HR703 HR705 hHeld ⊢
            refine pz 0 34 HT_ ?_
            refine pz 1 35 HT_ ?_
            refine pz 3 37 HT_ ?_
            refine pz 5 39 HT_ ?_
            refine pz 6 40 HT_ ?_
            refine pz 8 42 HT_ ?_
            refine oz 2 (some 36) HT_ (fun K hK => ?_)
            refine goes_ Try.func124 (by kernel_rfl) rfl #[.slice A27 (l0.drop 12).length (c0 - 12)] (by rfl) rfl rfl (by (try simp only [List.map_toArray, List.map_cons, List.map_nil]); first | done | (rw [show (l0.drop 12).length = (l0.length - 12) from List.length_drop] <;> rfl) | rfl | (simp only [List.length_drop, List.length_take]; rfl) | (go_simp; done) | (simp [Act.eval, IntKind.signed]; done) | (simp [Act.eval, IntKind.signed]; rfl)) ?_
            with_reducible refine (rewrite_four.calls _ _ (l0.drop 12) t704 _ ?side1 ?side2 A18.out).mono ?_
            (case side1 => exact Kd.C_below HR703.out (bz HB))
            (case side2 => exact HC703.out)
            rintro e w' ⟨rfl, ⟨nd, rfl⟩⟩
            refine ⟨_, rfl, ?_⟩
            refine hK.out _ _ trivial (fun hHeld => ?_)
            clear hK K
            refine nz 36 ?_
            refine pz 4 38 HT_ ?_
            refine oz 7 (some 41) HT_ (fun K hK => ?_)
            refine goes_ Try.func124 (by kernel_rfl) rfl #[.slice A28 (l0.drop 16).length (c0 - 16)] (by rfl) rfl rfl (by (try simp only [List.map_toArray, List.map_cons, List.map_nil]); first | done | (rw [show (l0.drop 16).length = (l0.length - 16) from List.length_drop] <;> rfl) | rfl | (simp only [List.length_drop, List.length_take]; rfl) | (go_simp; done) | (simp [Act.eval, IntKind.signed]; done) | (simp [Act.eval, IntKind.signed]; rfl)) ?_
            with_reducible refine (rewrite_four.calls _ _ (l0.drop 16) t706 _ ?side1 ?side2 A20.out).mono ?_
            (case side1 => exact Kd.C_below HR705.out (bz HB))
            (case side2 => exact HC705.out)
            rintro e w' ⟨rfl, ⟨nd, rfl⟩⟩
            refine ⟨_, rfl, ?_⟩
            refine hK.out _ _ trivial (fun hHeld => ?_)
            clear hK K
            refine nz 41 ?_
            refine pz 9 43 HT_ ?_
            refine oz 10 (some 44) HT_ (fun K hK => ?_)
            refine Kd.R_lit_step k65 _ 65 ?hg (N := 44) ?hd (xs := ([(⟨t704, t702⟩ : S65), (⟨t706, t702⟩ : S65)] : List (S65))) (inner := [.int .u32 t704, .int .u16 t702, .int .u32 t706, .int .u16 t702]) (ok := fun _ => True) (okp := fun _ => True) ?hr ?hp (fun _ hk => hk) trivial (Below.refl _ _) (Nat.le_refl _) (by simp) ?_; (case hd => rfl); (case hg => rfl); (case hr => first | (go_simp; done) | (go_simp; rfl)); (case hp => exact (Reps.c2 (show Kd.M k65 _ _ _ (⟨t704, t702⟩ : S65) [.int .u32 t704, .int .u16 t702] from (k65_mkM _ _ _ (⟨t704, t702⟩ : S65) )) (Reps.c2 (show Kd.M k65 _ _ _ (⟨t706, t702⟩ : S65) [.int .u32 t706, .int .u16 t702] from (k65_mkM _ _ _ (⟨t706, t702⟩ : S65) )) (Reps.none _ _))))
            intro v708 w29 ho30 hb hg_ hnew_
            clear hg_ hnew_
            (first | rw [← Ny707.out] at ho30 | (simp only [Int.reduceToNat] at ho30; rw [← Ny707.out] at ho30))
            have n0_ := Aside0.mk (Kd.R_lower ho30 (below_size (bz HB)))
            have n1_ := Aside0.mk (below_step (bz HB) hb)
            clear HB
            have HO709 := n0_
            have HB := n1_
            clear n0_ n1_
            clear hb ho30
            refine hK.out _ _ trivial (fun hHeld => ?_)
            clear hK K
            refine nz 44 ?_
            refine pz 11 2 HT_ ?_
            refine pz 12 3 HT_ ?_
            refine dz HT_ ?_
            try go_wp2
            go_ret2
            exact ⟨_, by first | rfl | (simp [errW_none, errW_some] <;> rfl) | (simp only [← hji7, ← hji13]; first | rfl | (simp [errW_none, errW_some] <;> rfl)) | (simp [*, errW_none, errW_some] <;> rfl), by (with_reducible repeat (first | apply Kd.R_alloc | apply Kd.R_drewN | apply Kd.R_drew)); exact HO709.out, bz HB⟩
           ·rw [if_neg c19] at H
            exact absurd H (by simp)
          ·rw [if_neg c17] at H
           exact absurd H (by simp)
         ·rw [if_neg c15] at H
          exact absurd H (by simp)
        ·rw [if_neg c14] at H
         exact absurd H (by simp)
       ·rw [if_neg c12] at H
        have c12b0 : ((rd l0 9) == 1) = false := beq_eq_false_iff_ne.mpr c12
        have c12b1 : ((rd l0 9) != 1) = true := bne_iff_ne.mpr c12
        by_cases c31 : 12 ≤ (l0.length : Int)
        ·rw [if_pos c31] at H
         have c31b0 := eq_true c31
         have c31b1 : decide (12 ≤ (l0.length : Int)) = true := decide_eq_true c31
         clear c31
         replace H := Option.bind_eq_some_iff.mp H
         obtain ⟨t711, A320, H⟩ := H
         replace H : (if 16 ≤ (l0.length : Int) then ((rewrite_four.f (l0.drop 16)).bind fun t713 => (some ((([(⟨t711, t697⟩ : S65), (⟨t713, t699⟩ : S65)] : List (S65))), true))) else (none)) = some (r1, r2) := H
         have A32 := Aside0.mk A320
         clear A320
         by_cases c33 : 16 ≤ (l0.length : Int)
         ·rw [if_pos c33] at H
          have c33b0 := eq_true c33
          have c33b1 : decide (16 ≤ (l0.length : Int)) = true := decide_eq_true c33
          clear c33
          replace H := Option.bind_eq_some_iff.mp H
          obtain ⟨t713, A340, H⟩ := H
          replace H : (some ((([(⟨t711, t697⟩ : S65), (⟨t713, t699⟩ : S65)] : List (S65))), true)) = some (r1, r2) := H
          have A34 := Aside0.mk A340
          clear A340
          obtain ⟨y714, hy714⟩ : ∃ y_ : List (S65), y_ = (([(⟨t711, t697⟩ : S65), (⟨t713, t699⟩ : S65)] : List (S65))) := ⟨_, rfl⟩
          replace H : (some (y714, true)) = some (r1, r2) := by first | (rw [hy714]; with_reducible exact H) | (have H2_ := (Option.bind_some _ _).symm.trans H; rw [hy714]; with_reducible exact H2_) | (have H2_ := (Option.bind_some _ _).symm.trans H; with_reducible exact H2_) | with_reducible exact H | (rw [hy714]; exact H) | exact H
          have Ny714 := Aside0.mk hy714
          clear hy714
          simp only [Option.some.injEq, Prod.mk.injEq] at H
          obtain ⟨rfl, rfl⟩ := H
          go_enter Try.func104, Try.ntmps104
          try go_wp2_with (first | ((with_reducible refine gate_callee (f := 86) rfl ?_); refine gL 10 Try.func86 #[.slice A0 l0.length c0] ?_; (with_reducible refine (rewrite_within.calls k _ _ l0 t694 true _ ?side1 ?side2 A2.out).mono ?_); (case side1 => repeat (first | exact HR0.out | (with_reducible refine Kd.C_alloc ?_ _) | (with_reducible refine Kd.C_drewN ?_ _) | (with_reducible refine Kd.C_drew ?_))); (case side2 => exact HC0.out); rintro e w35 ⟨rfl, hb⟩; refine ⟨_, rfl, ?_⟩; have n0_ := Aside0.mk (below_step (bz HB) hb); clear HB; have HB := n0_; clear n0_; (try clear hb); (try clear hb2); (try clear hk); (try clear hi)))
          have n0_ := Aside0.mk (below_drew1 HB.out)
          clear HB
          have HB := n0_
          clear n0_
          obtain ⟨i037, hi037, _, hsz37, _⟩ := info_parts info5
          obtain ⟨A37, hcut37, hA37, hC37⟩ := print_drop_of (P := Try.prog) (Value.int .u8) 0 23 5 .i64 Try.underlying23 hi037 hsz37 A0 c0 l0 t694 (of_decide_eq_true (by first | (with_reducible assumption) | assumption)) (of_decide_eq_true (by first | (with_reducible assumption) | assumption)) HC0.out
          have HR696 := Aside0.mk (Kd.C_of_reads (h1 := fun _ => rfl) (hA37 _ (Kd.reads_of_C HR0.out)))
          have HC696 := Aside0.mk hC37
          clear hA37 hC37 hi037 hsz37
          obtain ⟨i038, hi038, _, hsz38, _⟩ := info_parts info5
          obtain ⟨A38, hcut38, hA38, hC38⟩ := print_drop_of (P := Try.prog) (Value.int .u8) 0 23 5 .i64 Try.underlying23 hi038 hsz38 A0 c0 l0 (ji7) (of_decide_eq_true (by first | (with_reducible assumption) | assumption)) (of_decide_eq_true (by first | (with_reducible assumption) | assumption)) HC0.out
          have HR698 := Aside0.mk (Kd.C_of_reads (h1 := fun _ => rfl) (hA38 _ (Kd.reads_of_C HR0.out)))
          have HC698 := Aside0.mk hC38
          clear hA38 hC38 hi038 hsz38
          refine start_ (n := 11) (S := fun w' => True) (ds := []) #[false, false, false, false, false, false, false, false, false, false, false] (by kernel_rfl) rfl rfl trivial (fun hHeld => ?_); refine with_tabW rewrite_inner.tab4 rewrite_inner.bits4 (fun HT_ HW_ => ?_)
          generalize w35.drew = w36 at HB HR696 HR698 hHeld ⊢
          refine pz 0 15 HT_ ?_
          refine pz 1 16 HT_ ?_
          refine pz 2 17 HT_ ?_
          refine pz 4 19 HT_ ?_
          refine pz 5 20 HT_ ?_
          refine pz 6 21 HT_ ?_
          refine pz 7 22 HT_ ?_
          refine oz 3 (some 18) HT_ (fun K hK => ?_)
          refine goes_ Try.func87 (by kernel_rfl) rfl #[.slice A37 (l0.drop (t694 : Int).toNat).length (c0 - t694.toNat)] (by rfl) rfl rfl (by (try simp only [List.map_toArray, List.map_cons, List.map_nil]); first | done | (rw [show (l0.drop (t694 : Int).toNat).length = (l0.length - t694.toNat) from List.length_drop] <;> rfl) | rfl | (simp only [List.length_drop, List.length_take]; rfl) | (go_simp; done) | (simp [Act.eval, IntKind.signed]; done) | (simp [Act.eval, IntKind.signed]; rfl)) ?_
          with_reducible refine (rewrite_two.calls _ _ (l0.drop (t694 : Int).toNat) t697 _ ?side1 ?side2 A6.out).mono ?_
          (case side1 => exact Kd.C_below HR696.out (bz HB))
          (case side2 => exact HC696.out)
          rintro e w' ⟨rfl, ⟨nd, rfl⟩⟩
          refine ⟨_, rfl, ?_⟩
          refine hK.out _ _ trivial (fun hHeld => ?_)
          clear hK K
          refine nz 18 ?_
          refine oz 8 (some 23) HT_ (fun K hK => ?_)
          refine goes_ Try.func87 (by kernel_rfl) rfl #[.slice A38 (l0.drop ((ji7) : Int).toNat).length (c0 - (ji7).toNat)] (by rfl) rfl rfl (by (try simp only [List.map_toArray, List.map_cons, List.map_nil]); first | done | (rw [show (l0.drop ((ji7) : Int).toNat).length = (l0.length - (ji7).toNat) from List.length_drop] <;> rfl) | (simp only [hji7]; rfl) | rfl | (simp only [List.length_drop, List.length_take]; rfl) | (go_simp; done) | (simp [Act.eval, IntKind.signed]; done) | (simp [Act.eval, IntKind.signed]; rfl)) ?_
          with_reducible refine (rewrite_two.calls _ _ (l0.drop ((ji7) : Int).toNat) t699 _ ?side1 ?side2 A10.out).mono ?_
          (case side1 => exact Kd.C_below HR698.out (bz HB))
          (case side2 => exact HC698.out)
          rintro e w' ⟨rfl, ⟨nd, rfl⟩⟩
          refine ⟨_, rfl, ?_⟩
          refine hK.out _ _ trivial (fun hHeld => ?_)
          clear hK K
          refine nz 23 ?_
          refine pz 9 6 HT_ ?_
          refine pz 10 7 HT_ ?_
          refine dz HT_ ?_
          have p700 : 0 ≤ (9 : Int) := (by omega)
          have q700 : 9 < (l0.length : Int) := of_decide_eq_true (by first | (with_reducible assumption) | assumption)
          obtain ⟨ad700, e700, hx700_0⟩ := Kd.at_int HR0.out 9 p700 q700
          cases e700
          (try simp only [show (9 : Int).toNat = 9 from rfl, Nat.reduceMul, Nat.reduceEqDiff, Go.Addr.add, ↓reduceIte] at hx700_0)
          have qi700 : (9 < l0.length) = True := eq_true (by omega)
          (try rw [show ((9 : Int)).toNat = 9 from rfl] at hx700_0)
          replace hx700_0 := (HB.out.cell (World.block_lt_of_cell? w _ hx700_0)).trans hx700_0
          replace p700 := eq_true p700
          replace q700 := eq_true q700
          try go_wp2
          (try (rw [drewN_self w36]; generalize hq_ : World.drewN w36 _ = w36; have n0_ : Aside0 (Below w.heap.size w w36) := ⟨by rw [← hq_]; exact bz HB⟩; clear HB hq_; have HB := n0_; clear n0_))
          have n0_ := Aside0.mk (below_drew1 HB.out)
          clear HB
          have HB := n0_
          clear n0_
          obtain ⟨i040, hi040, _, hsz40, _⟩ := info_parts info5
          obtain ⟨A40, hcut40, hA40, hC40⟩ := print_drop_of (P := Try.prog) (Value.int .u8) 0 23 5 .i64 Try.underlying23 hi040 hsz40 (some ad700) c0 l0 12 (by omega) (of_decide_eq_true (by first | (with_reducible assumption) | assumption)) HC0.out
          have HR710 := Aside0.mk (Kd.C_of_reads (h1 := fun _ => rfl) (hA40 _ (Kd.reads_of_C HR0.out)))
          have HC710 := Aside0.mk hC40
          clear hA40 hC40 hi040 hsz40
          obtain ⟨i041, hi041, _, hsz41, _⟩ := info_parts info5
          obtain ⟨A41, hcut41, hA41, hC41⟩ := print_drop_of (P := Try.prog) (Value.int .u8) 0 23 5 .i64 Try.underlying23 hi041 hsz41 (some ad700) c0 l0 16 (by omega) (of_decide_eq_true (by first | (with_reducible assumption) | assumption)) HC0.out
          have HR712 := Aside0.mk (Kd.C_of_reads (h1 := fun _ => rfl) (hA41 _ (Kd.reads_of_C HR0.out)))
          have HC712 := Aside0.mk hC41
          clear hA41 hC41 hi041 hsz41
          refine start_ (n := 13) (S := fun w' => True) (ds := []) #[false, false, false, false, false, false, false, false, false, false, false, false, false] (by kernel_rfl) rfl rfl trivial (fun hHeld => ?_); refine with_tabW rewrite_inner.tab8 rewrite_inner.bits8 (fun HT_ HW_ => ?_)
          generalize w36.drew = w39 at HB HR710 HR712 hHeld ⊢
          refine pz 0 34 HT_ ?_
          refine pz 1 35 HT_ ?_
          refine pz 3 37 HT_ ?_
          refine pz 5 39 HT_ ?_
          refine pz 6 40 HT_ ?_
          refine pz 8 42 HT_ ?_
          refine oz 2 (some 36) HT_ (fun K hK => ?_)
          refine goes_ Try.func124 (by kernel_rfl) rfl #[.slice A40 (l0.drop 12).length (c0 - 12)] (by rfl) rfl rfl (by (try simp only [List.map_toArray, List.map_cons, List.map_nil]); first | done | (rw [show (l0.drop 12).length = (l0.length - 12) from List.length_drop] <;> rfl) | rfl | (simp only [List.length_drop, List.length_take]; rfl) | (go_simp; done) | (simp [Act.eval, IntKind.signed]; done) | (simp [Act.eval, IntKind.signed]; rfl)) ?_
          with_reducible refine (rewrite_four.calls _ _ (l0.drop 12) t711 _ ?side1 ?side2 A32.out).mono ?_
          (case side1 => exact Kd.C_below HR710.out (bz HB))
          (case side2 => exact HC710.out)
          rintro e w' ⟨rfl, ⟨nd, rfl⟩⟩
          refine ⟨_, rfl, ?_⟩
          refine hK.out _ _ trivial (fun hHeld => ?_)
          clear hK K
          refine nz 36 ?_
          refine pz 4 38 HT_ ?_
          refine oz 7 (some 41) HT_ (fun K hK => ?_)
          refine goes_ Try.func124 (by kernel_rfl) rfl #[.slice A41 (l0.drop 16).length (c0 - 16)] (by rfl) rfl rfl (by (try simp only [List.map_toArray, List.map_cons, List.map_nil]); first | done | (rw [show (l0.drop 16).length = (l0.length - 16) from List.length_drop] <;> rfl) | rfl | (simp only [List.length_drop, List.length_take]; rfl) | (go_simp; done) | (simp [Act.eval, IntKind.signed]; done) | (simp [Act.eval, IntKind.signed]; rfl)) ?_
          with_reducible refine (rewrite_four.calls _ _ (l0.drop 16) t713 _ ?side1 ?side2 A34.out).mono ?_
          (case side1 => exact Kd.C_below HR712.out (bz HB))
          (case side2 => exact HC712.out)
          rintro e w' ⟨rfl, ⟨nd, rfl⟩⟩
          refine ⟨_, rfl, ?_⟩
          refine hK.out _ _ trivial (fun hHeld => ?_)
          clear hK K
          refine nz 41 ?_
          refine pz 9 43 HT_ ?_
          refine oz 10 (some 44) HT_ (fun K hK => ?_)
          refine Kd.R_lit_step k65 _ 65 ?hg (N := 44) ?hd (xs := ([(⟨t711, t697⟩ : S65), (⟨t713, t699⟩ : S65)] : List (S65))) (inner := [.int .u32 t711, .int .u16 t697, .int .u32 t713, .int .u16 t699]) (ok := fun _ => True) (okp := fun _ => True) ?hr ?hp (fun _ hk => hk) trivial (Below.refl _ _) (Nat.le_refl _) (by simp) ?_; (case hd => rfl); (case hg => rfl); (case hr => first | (go_simp; done) | (go_simp; rfl)); (case hp => exact (Reps.c2 (show Kd.M k65 _ _ _ (⟨t711, t697⟩ : S65) [.int .u32 t711, .int .u16 t697] from (k65_mkM _ _ _ (⟨t711, t697⟩ : S65) )) (Reps.c2 (show Kd.M k65 _ _ _ (⟨t713, t699⟩ : S65) [.int .u32 t713, .int .u16 t699] from (k65_mkM _ _ _ (⟨t713, t699⟩ : S65) )) (Reps.none _ _))))
          intro v715 w42 ho43 hb hg_ hnew_
          clear hg_ hnew_
          (first | rw [← Ny714.out] at ho43 | (simp only [Int.reduceToNat] at ho43; rw [← Ny714.out] at ho43))
          have n0_ := Aside0.mk (Kd.R_lower ho43 (below_size (bz HB)))
          have n1_ := Aside0.mk (below_step (bz HB) hb)
          clear HB
          have HO716 := n0_
          have HB := n1_
          clear n0_ n1_
          clear hb ho43
          refine hK.out _ _ trivial (fun hHeld => ?_)
          clear hK K
          refine nz 44 ?_
          refine pz 11 2 HT_ ?_
          refine pz 12 3 HT_ ?_
          refine dz HT_ ?_
          try go_wp2
          go_ret2
          exact ⟨_, by first | rfl | (simp [errW_none, errW_some] <;> rfl) | (simp only [← hji7]; first | rfl | (simp [errW_none, errW_some] <;> rfl)) | (simp [*, errW_none, errW_some] <;> rfl), by (with_reducible repeat (first | apply Kd.R_alloc | apply Kd.R_drewN | apply Kd.R_drew)); exact HO716.out, bz HB⟩
         ·rw [if_neg c33] at H
          exact absurd H (by simp)
        ·rw [if_neg c31] at H
         exact absurd H (by simp)
      ·rw [if_neg c11] at H
       exact absurd H (by simp)
     ·rw [if_neg c9] at H
      exact absurd H (by simp)
    ·rw [if_neg c8] at H
     exact absurd H (by simp)
   ·rw [if_neg c5] at H
    exact absurd H (by simp)
  ·rw [if_neg c4] at H
   exact absurd H (by simp)
 ·replace c3 := Bool.eq_false_iff.mpr c3
  subst c3
  have H1 : (some (([] : List (S65)), false)) = some (r1, r2) := by rw [if_neg (show ¬ (false = true) by decide)] at H; exact H
  clear H
  have H := H1
  clear H1
  simp only [Option.some.injEq, Prod.mk.injEq] at H
  obtain ⟨rfl, rfl⟩ := H
  go_enter Try.func104, Try.ntmps104
  go_wp2_with (first | ((with_reducible refine gate_callee (f := 86) rfl ?_); refine gL 10 Try.func86 #[.slice A0 l0.length c0] ?_; (with_reducible refine (rewrite_within.calls k _ _ l0 t694 false _ ?side1 ?side2 A2.out).mono ?_); (case side1 => repeat (first | exact HR0.out | (with_reducible refine Kd.C_alloc ?_ _) | (with_reducible refine Kd.C_drewN ?_ _) | (with_reducible refine Kd.C_drew ?_))); (case side2 => exact HC0.out); rintro e w44 ⟨rfl, hb⟩; refine ⟨_, rfl, ?_⟩; have n0_ := Aside0.mk (below_step (bz HB) hb); clear HB; have HB := n0_; clear n0_; (try clear hb); (try clear hb2); (try clear hk); (try clear hi)))
  go_ret2
  exact ⟨_, by first | rfl | (simp [errW_none, errW_some] <;> rfl) | (simp [*, errW_none, errW_some] <;> rfl), by first | exact Kd.R_nil _ _ _ _ _ | exact Kd.N_nil _ _ _ _ _ | exact Kd.V_nil _ _ _ _ _ | exact Kd.Q_nil _ _ _ _ _ | exact Kd.S_nil _ _ _ _ _, bz HB⟩
def icmp_Error.f (a0_0 : Int) (a0_1 : Int) (a0_2 : Int) (a0_3 : Int) (l0_4 : List Int) : Option (Bool) := (icmp_kind.f a0_0).bind fun t718 => (some (t718 == 3))
theorem icmp_Error.calls (a0_0 : Int) (a0_1 : Int) (a0_2 : Int) (a0_3 : Int) (A0_4 : Option Addr) (c0_4 : Nat) (l0_4 : List Int) (r : Bool) (w : World) (hr0_4 : Kd.C (Kd.int .u8) w A0_4 l0_4.length l0_4) (hc0_4 : l0_4.length ≤ c0_4) (h : icmp_Error.f a0_0 a0_1 a0_2 a0_3 l0_4 = some r) :
  Calls Try.prog 106 #[.agg #[.int .u8 a0_0, .int .u8 a0_1, .int .u16 a0_2, .int .u32 a0_3, .slice A0_4 l0_4.length c0_4]] w fun e w' => e = .returned (.bool r) ∧ Below w.heap.size w w' := by
 have hu101 := Try.underlying101
 have HR0_4 := Aside0.mk hr0_4
 have HC0_4 := Aside0.mk hc0_4
 clear hr0_4 hc0_4
 have HB := Aside0.mk (Below.refl w.heap.size w)
 have H : ((icmp_kind.f a0_0).bind fun t718 => (some (t718 == 3))) = some r := h
 clear h
 replace H := Option.bind_eq_some_iff.mp H
 obtain ⟨t718, A20, H⟩ := H
 replace H : (some (t718 == 3)) = some r := H
 have A2 := Aside0.mk A20
 clear A20
 obtain rfl := Option.some.inj H
 go_enter Try.func106, Try.ntmps106
 go_wp2_with (first | ((with_reducible refine gate_callee (f := 125) rfl ?_); refine gL 5 Try.func125 #[.int .u8 a0_0] ?_; (with_reducible refine (icmp_kind.calls a0_0 t718 _ A2.out).mono ?_); rintro e w' ⟨rfl, ⟨nd, rfl⟩⟩; refine ⟨_, rfl, ?_⟩))
 go_ret
 exact ⟨by first | rfl | (simp [errW_none, errW_some] <;> rfl) | (simp [*, errW_none, errW_some] <;> rfl), bz HB⟩
def udp_Sum.f (k : Nat) (a0 : Int) (a1 : Int) (a2_0 : Int) (a2_1 : Int) (a2_2 : Int) (l2_3 : List Int) : Option (Int) := (udp_total.f k a0 a1 a2_0 a2_1 0 l2_3).bind fun bt720 => (if bt720.2 = true then (if bt720.1 = 65535 then (some bt720.1) else (some (Go.bits .xor .u16 IntKind.u16.max bt720.1))) else (some 0))
theorem udp_Sum.calls (k : Nat) (a0 : Int) (a1 : Int) (a2_0 : Int) (a2_1 : Int) (a2_2 : Int) (A2_3 : Option Addr) (c2_3 : Nat) (l2_3 : List Int) (r : Int) (w : World) (hr2_3 : Kd.C (Kd.int .u8) w A2_3 l2_3.length l2_3) (hc2_3 : l2_3.length ≤ c2_3) (h : udp_Sum.f k a0 a1 a2_0 a2_1 a2_2 l2_3 = some r) :
  Calls Try.prog 107 #[.int .u32 a0, .int .u32 a1, .agg #[.int .u16 a2_0, .int .u16 a2_1, .int .u16 a2_2, .slice A2_3 l2_3.length c2_3]] w fun e w' => e = .returned (.int .u16 r) ∧ Below w.heap.size w w' := by
 have hu83 := Try.underlying83
 have hsg_u16 : IntKind.u16.signed = false := rfl
 have HR2_3 := Aside0.mk hr2_3
 have HC2_3 := Aside0.mk hc2_3
 clear hr2_3 hc2_3
 have HB := Aside0.mk (Below.refl w.heap.size w)
 have H : ((udp_total.f k a0 a1 a2_0 a2_1 0 l2_3).bind fun bt720 => (if bt720.2 = true then (if bt720.1 = 65535 then (some bt720.1) else (some (Go.bits .xor .u16 IntKind.u16.max bt720.1))) else (some 0))) = some r := h
 clear h
 replace H := Option.bind_eq_some_iff.mp H
 obtain ⟨⟨t720, t721⟩, A40, H⟩ := H
 replace H : (if t721 = true then (if t720 = 65535 then (some t720) else (some (Go.bits .xor .u16 IntKind.u16.max t720))) else (some 0)) = some r := H
 have A4 := Aside0.mk A40
 clear A40
 by_cases c5 : t721 = true
 ·subst c5
  have H1 : (if t720 = 65535 then (some t720) else (some (Go.bits .xor .u16 IntKind.u16.max t720))) = some r := by rw [if_pos rfl] at H; exact H
  clear H
  have H := H1
  clear H1
  by_cases c6 : t720 = 65535
  ·rw [if_pos c6] at H
   have c6b0 : (t720 == 65535) = true := beq_iff_eq.mpr c6
   have c6b1 : (t720 != 65535) = false := bne_eq_false_iff_eq.mpr c6
   clear c6
   obtain rfl := Option.some.inj H
   go_enter Try.func107, Try.ntmps107
   go_wp2_with (first | ((with_reducible refine gate_dst (N := 5) rfl ?_); refine box_event ?hg (N := 5) ?hd (cs := #[.int .u16 a2_0, .int .u16 a2_1, .int .u16 a2_2, .slice A2_3 l2_3.length c2_3]) (t := 83) ?hr ?_; (case hd => rfl); (case hg => rfl); (case hr => first | (go_simp; done) | (go_simp; rfl)); intro gb719 hg w7 hbox hb; have n0_ := Aside0.mk (below_step (bz HB) hb); have n1_ := Aside0.mk (hbox); have n2_ := Aside0.mk ((by rw [hg]; exact (below_size (bz HB)) : w.heap.size ≤ gb719)); have n3_ := Aside0.mk ((by rw [hg]; exact (below_size (bz HB)) : w.heap.size ≤ gb719)); clear HB; have HB := n0_; have BK719 := n1_; have GW719 := n2_; have GE719 := n3_; clear n0_ n1_ n2_ n3_; clear hb hbox hg; have hcz8_0 : w7.cell? ⟨gb719, 0, none⟩ = some (.int .u16 a2_0) := cz BK719.out 0 rfl; have hcz8_1 : w7.cell? ⟨gb719, 1, none⟩ = some (.int .u16 a2_1) := cz BK719.out 1 rfl; have hcz8_2 : w7.cell? ⟨gb719, 2, none⟩ = some (.int .u16 a2_2) := cz BK719.out 2 rfl; have hcz8_3 : w7.cell? ⟨gb719, 3, none⟩ = some (.slice A2_3 l2_3.length c2_3) := cz BK719.out 3 rfl; have hfz8_0 := blk_frozen BK719.out 0; have hfz8_1 := blk_frozen BK719.out 1; have hfz8_2 := blk_frozen BK719.out 2; have hfz8_3 := blk_frozen BK719.out 3) | ((with_reducible refine gate_callee (f := 98) rfl ?_); refine gL 14 Try.func98 #[.int .u32 a0, .int .u32 a1, .agg #[.int .u16 a2_0, .int .u16 a2_1, .int .u16 0, .slice A2_3 l2_3.length c2_3]] ?_; (with_reducible refine (udp_total.calls k a0 a1 a2_0 a2_1 0 _ _ l2_3 t720 true _ ?side1 ?side2 A4.out).mono ?_); (case side1 => exact Kd.C_below HR2_3.out (bz HB)); (case side2 => exact HC2_3.out); rintro e w9 ⟨rfl, hb⟩; refine ⟨_, rfl, ?_⟩; have n0_ := Aside0.mk (blk_below (g := gb719) (o := .cells #[.int .u16 a2_0, .int .u16 a2_1, .int .u16 0, .slice A2_3 l2_3.length c2_3] 83 (0, 0)) (by (with_reducible repeat (first | refine blk_drewN ?_ _ | refine blk_drew ?_ | refine blk_alloc ?_ _)); refine blk_put (cs := #[.int .u16 a2_0, .int .u16 a2_1, .int .u16 a2_2, .slice A2_3 l2_3.length c2_3]) ?_ 2 _ rfl; (with_reducible repeat (first | refine blk_drewN ?_ _ | refine blk_drew ?_ | refine blk_alloc ?_ _)); exact BK719.out) hb); have n1_ := Aside0.mk (below_step (bz HB) hb); clear BK719; clear HB; have BK719 := n0_; have HB := n1_; clear n0_ n1_; (try clear hb); (try clear hb2); (try clear hk); (try clear hi)))
   go_ret
   exact ⟨by first | rfl | (simp [errW_none, errW_some] <;> rfl) | (simp [*, errW_none, errW_some] <;> rfl), bz HB⟩
  ·rw [if_neg c6] at H
   have c6b0 : (t720 == 65535) = false := beq_eq_false_iff_ne.mpr c6
   have c6b1 : (t720 != 65535) = true := bne_iff_ne.mpr c6
   obtain rfl := Option.some.inj H
   go_enter Try.func107, Try.ntmps107
   go_wp2_with (first | ((with_reducible refine gate_dst (N := 5) rfl ?_); refine box_event ?hg (N := 5) ?hd (cs := #[.int .u16 a2_0, .int .u16 a2_1, .int .u16 a2_2, .slice A2_3 l2_3.length c2_3]) (t := 83) ?hr ?_; (case hd => rfl); (case hg => rfl); (case hr => first | (go_simp; done) | (go_simp; rfl)); intro gb719 hg w10 hbox hb; have n0_ := Aside0.mk (below_step (bz HB) hb); have n1_ := Aside0.mk (hbox); have n2_ := Aside0.mk ((by rw [hg]; exact (below_size (bz HB)) : w.heap.size ≤ gb719)); have n3_ := Aside0.mk ((by rw [hg]; exact (below_size (bz HB)) : w.heap.size ≤ gb719)); clear HB; have HB := n0_; have BK719 := n1_; have GW719 := n2_; have GE719 := n3_; clear n0_ n1_ n2_ n3_; clear hb hbox hg; have hcz11_0 : w10.cell? ⟨gb719, 0, none⟩ = some (.int .u16 a2_0) := cz BK719.out 0 rfl; have hcz11_1 : w10.cell? ⟨gb719, 1, none⟩ = some (.int .u16 a2_1) := cz BK719.out 1 rfl; have hcz11_2 : w10.cell? ⟨gb719, 2, none⟩ = some (.int .u16 a2_2) := cz BK719.out 2 rfl; have hcz11_3 : w10.cell? ⟨gb719, 3, none⟩ = some (.slice A2_3 l2_3.length c2_3) := cz BK719.out 3 rfl; have hfz11_0 := blk_frozen BK719.out 0; have hfz11_1 := blk_frozen BK719.out 1; have hfz11_2 := blk_frozen BK719.out 2; have hfz11_3 := blk_frozen BK719.out 3) | ((with_reducible refine gate_callee (f := 98) rfl ?_); refine gL 14 Try.func98 #[.int .u32 a0, .int .u32 a1, .agg #[.int .u16 a2_0, .int .u16 a2_1, .int .u16 0, .slice A2_3 l2_3.length c2_3]] ?_; (with_reducible refine (udp_total.calls k a0 a1 a2_0 a2_1 0 _ _ l2_3 t720 true _ ?side1 ?side2 A4.out).mono ?_); (case side1 => exact Kd.C_below HR2_3.out (bz HB)); (case side2 => exact HC2_3.out); rintro e w12 ⟨rfl, hb⟩; refine ⟨_, rfl, ?_⟩; have n0_ := Aside0.mk (blk_below (g := gb719) (o := .cells #[.int .u16 a2_0, .int .u16 a2_1, .int .u16 0, .slice A2_3 l2_3.length c2_3] 83 (0, 0)) (by (with_reducible repeat (first | refine blk_drewN ?_ _ | refine blk_drew ?_ | refine blk_alloc ?_ _)); refine blk_put (cs := #[.int .u16 a2_0, .int .u16 a2_1, .int .u16 a2_2, .slice A2_3 l2_3.length c2_3]) ?_ 2 _ rfl; (with_reducible repeat (first | refine blk_drewN ?_ _ | refine blk_drew ?_ | refine blk_alloc ?_ _)); exact BK719.out) hb); have n1_ := Aside0.mk (below_step (bz HB) hb); clear BK719; clear HB; have BK719 := n0_; have HB := n1_; clear n0_ n1_; (try clear hb); (try clear hb2); (try clear hk); (try clear hi)))
   go_ret
   exact ⟨by first | rfl | (simp [errW_none, errW_some] <;> rfl) | (simp [*, errW_none, errW_some] <;> rfl), bz HB⟩
 ·replace c5 := Bool.eq_false_iff.mpr c5
  subst c5
  have H1 : (some 0) = some r := by rw [if_neg (show ¬ (false = true) by decide)] at H; exact H
  clear H
  have H := H1
  clear H1
  obtain rfl := Option.some.inj H
  go_enter Try.func107, Try.ntmps107
  go_wp2_with (first | ((with_reducible refine gate_dst (N := 5) rfl ?_); refine box_event ?hg (N := 5) ?hd (cs := #[.int .u16 a2_0, .int .u16 a2_1, .int .u16 a2_2, .slice A2_3 l2_3.length c2_3]) (t := 83) ?hr ?_; (case hd => rfl); (case hg => rfl); (case hr => first | (go_simp; done) | (go_simp; rfl)); intro gb719 hg w13 hbox hb; have n0_ := Aside0.mk (below_step (bz HB) hb); have n1_ := Aside0.mk (hbox); have n2_ := Aside0.mk ((by rw [hg]; exact (below_size (bz HB)) : w.heap.size ≤ gb719)); have n3_ := Aside0.mk ((by rw [hg]; exact (below_size (bz HB)) : w.heap.size ≤ gb719)); clear HB; have HB := n0_; have BK719 := n1_; have GW719 := n2_; have GE719 := n3_; clear n0_ n1_ n2_ n3_; clear hb hbox hg; have hcz14_0 : w13.cell? ⟨gb719, 0, none⟩ = some (.int .u16 a2_0) := cz BK719.out 0 rfl; have hcz14_1 : w13.cell? ⟨gb719, 1, none⟩ = some (.int .u16 a2_1) := cz BK719.out 1 rfl; have hcz14_2 : w13.cell? ⟨gb719, 2, none⟩ = some (.int .u16 a2_2) := cz BK719.out 2 rfl; have hcz14_3 : w13.cell? ⟨gb719, 3, none⟩ = some (.slice A2_3 l2_3.length c2_3) := cz BK719.out 3 rfl; have hfz14_0 := blk_frozen BK719.out 0; have hfz14_1 := blk_frozen BK719.out 1; have hfz14_2 := blk_frozen BK719.out 2; have hfz14_3 := blk_frozen BK719.out 3) | ((with_reducible refine gate_callee (f := 98) rfl ?_); refine gL 14 Try.func98 #[.int .u32 a0, .int .u32 a1, .agg #[.int .u16 a2_0, .int .u16 a2_1, .int .u16 0, .slice A2_3 l2_3.length c2_3]] ?_; (with_reducible refine (udp_total.calls k a0 a1 a2_0 a2_1 0 _ _ l2_3 t720 false _ ?side1 ?side2 A4.out).mono ?_); (case side1 => exact Kd.C_below HR2_3.out (bz HB)); (case side2 => exact HC2_3.out); rintro e w15 ⟨rfl, hb⟩; refine ⟨_, rfl, ?_⟩; have n0_ := Aside0.mk (blk_below (g := gb719) (o := .cells #[.int .u16 a2_0, .int .u16 a2_1, .int .u16 0, .slice A2_3 l2_3.length c2_3] 83 (0, 0)) (by (with_reducible repeat (first | refine blk_drewN ?_ _ | refine blk_drew ?_ | refine blk_alloc ?_ _)); refine blk_put (cs := #[.int .u16 a2_0, .int .u16 a2_1, .int .u16 a2_2, .slice A2_3 l2_3.length c2_3]) ?_ 2 _ rfl; (with_reducible repeat (first | refine blk_drewN ?_ _ | refine blk_drew ?_ | refine blk_alloc ?_ _)); exact BK719.out) hb); have n1_ := Aside0.mk (below_step (bz HB) hb); clear BK719; clear HB; have BK719 := n0_; have HB := n1_; clear n0_ n1_; (try clear hb); (try clear hb2); (try clear hk); (try clear hi)))
  go_ret
  exact ⟨by first | rfl | (simp [errW_none, errW_some] <;> rfl) | (simp [*, errW_none, errW_some] <;> rfl), bz HB⟩
end Go.Proofs.Ytkmimamminddiaa.PB
/- rewrite.look: a packet, its body, its flow. -/
namespace Go.Proofs.Ytkmimamminddiaa.PB
open Go.RowKit Go.Proofs.YtkmimamminddiaaW.PrintWords Go.Proofs.YtkmimamminddiaaW.PrintLast Go.Proofs.YtkmimamminddiaaW.PrintMore
set_option linter.unusedVariables false
set_option linter.unusedSimpArgs false
theorem inR179 (v b : Value) (w : World) : (callMethod (.iface 179 v) "lych/rewrite.right" #[b]).run Try.prog w = .ok (.enter 156 #[v, b]) w := by kernel_rfl
attribute [local go_sem] inR179
theorem inP179 (v : Value) (w : World) : (callMethod (.iface 179 v) "lych/rewrite.proto" #[]).run Try.prog w = .ok (.enter 155 #[v]) w := by kernel_rfl
attribute [local go_sem] inP179
theorem inR181 (v b : Value) (w : World) : (callMethod (.iface 181 v) "lych/rewrite.right" #[b]).run Try.prog w = .ok (.enter 158 #[v, b]) w := by kernel_rfl
attribute [local go_sem] inR181
theorem inP181 (v : Value) (w : World) : (callMethod (.iface 181 v) "lych/rewrite.proto" #[]).run Try.prog w = .ok (.enter 157 #[v]) w := by kernel_rfl
attribute [local go_sem] inP181
theorem inR183 (v b : Value) (w : World) : (callMethod (.iface 183 v) "lych/rewrite.right" #[b]).run Try.prog w = .ok (.enter 161 #[v, b]) w := by kernel_rfl
attribute [local go_sem] inR183
theorem inP183 (v : Value) (w : World) : (callMethod (.iface 183 v) "lych/rewrite.proto" #[]).run Try.prog w = .ok (.enter 160 #[v]) w := by kernel_rfl
attribute [local go_sem] inP183
theorem inT179 (v : Value) (w : World) : (Instr.typeAssert (.iface 179 v) 130 179 false).run Try.prog w = .ok v w := by kernel_rfl
attribute [local go_sem] inT179
theorem inT181 (v : Value) (w : World) : (Instr.typeAssert (.iface 181 v) 130 181 false).run Try.prog w = .ok v w := by kernel_rfl
attribute [local go_sem] inT181
theorem inT183 (v : Value) (w : World) : (Instr.typeAssert (.iface 183 v) 130 183 false).run Try.prog w = .ok v w := by kernel_rfl
attribute [local go_sem] inT183
theorem inF179 (c0 c1 c2 c3 : Value) (w : World) : (Instr.field 179 (.agg #[c0, c1, c2, c3]) 0).run Try.prog w = .ok (.agg #[c0, c1, c2, c3]) w := by kernel_rfl
attribute [local go_sem] inF179
theorem inF181 (c0 c1 c2 c3 c4 c5 c6 c7 c8 c9 : Value) (w : World) : (Instr.field 181 (.agg #[c0, c1, c2, c3, c4, c5, c6, c7, c8, c9]) 0).run Try.prog w = .ok (.agg #[c0, c1, c2, c3, c4, c5, c6, c7, c8, c9]) w := by kernel_rfl
attribute [local go_sem] inF181
theorem inF183 (c0 c1 c2 c3 c4 : Value) (w : World) : (Instr.field 183 (.agg #[c0, c1, c2, c3, c4]) 0).run Try.prog w = .ok (.agg #[c0, c1, c2, c3, c4]) w := by kernel_rfl
attribute [local go_sem] inF183
theorem results_ctct {P : Program} {fn : Func} {p u p2 u2 : Tmp} {ty ty2 : TypeId} (h : fn.results = #[.cell p ty, .tmp u, .cell p2 ty2, .tmp u2]) (tmps : Array Value) (w : World) (g g2 : Nat) (t t2 : TypeId) (cs cs2 : Array Value) (fr fr2 : Nat × Nat) (d d2 : TypeDesc)
  (hp : tmps.getD p undef = .pointer (some ⟨g, 0, none⟩)) (hg : w.heap[g]? = some (.cells cs t fr)) (hu : P.underlying ty = some d) (hd : (match d with | .struct _ | .array _ _ => true | _ => false) = true) (hi : (P.info? ty).map (·.size) = some cs.size)
  (hp2 : tmps.getD p2 undef = .pointer (some ⟨g2, 0, none⟩)) (hg2 : w.heap[g2]? = some (.cells cs2 t2 fr2)) (hu2 : P.underlying ty2 = some d2) (hd2 : (match d2 with | .struct _ | .array _ _ => true | _ => false) = true) (hi2 : (P.info? ty2).map (·.size) = some cs2.size) :
  (results fn tmps).run P w = .ok (.tuple #[.agg cs, tmps.getD u undef, .agg cs2, tmps.getD u2 undef]) w := by
 have h1 : tmps[p]?.getD undef = .pointer (some ⟨g, 0, none⟩) := by simpa using hp
 have h2 : tmps[p2]?.getD undef = .pointer (some ⟨g2, 0, none⟩) := by simpa using hp2
 simp [results, h, h1, h2, asAddr, run_loadVar_row w g t ty cs fr d hg hu hd hi, run_loadVar_row w g2 t2 ty2 cs2 fr2 d2 hg2 hu2 hd2 hi2]
theorem results_cct {P : Program} {fn : Func} {p p2 u2 : Tmp} {ty ty2 : TypeId} (h : fn.results = #[.cell p ty, .cell p2 ty2, .tmp u2]) (tmps : Array Value) (w : World) (g g2 : Nat) (t t2 : TypeId) (cs cs2 : Array Value) (fr fr2 : Nat × Nat) (d d2 : TypeDesc)
  (hp : tmps.getD p undef = .pointer (some ⟨g, 0, none⟩)) (hg : w.heap[g]? = some (.cells cs t fr)) (hu : P.underlying ty = some d) (hd : (match d with | .struct _ | .array _ _ => true | _ => false) = true) (hi : (P.info? ty).map (·.size) = some cs.size)
  (hp2 : tmps.getD p2 undef = .pointer (some ⟨g2, 0, none⟩)) (hg2 : w.heap[g2]? = some (.cells cs2 t2 fr2)) (hu2 : P.underlying ty2 = some d2) (hd2 : (match d2 with | .struct _ | .array _ _ => true | _ => false) = true) (hi2 : (P.info? ty2).map (·.size) = some cs2.size) :
  (results fn tmps).run P w = .ok (.tuple #[.agg cs, .agg cs2, tmps.getD u2 undef]) w := by
 have h1 : tmps[p]?.getD undef = .pointer (some ⟨g, 0, none⟩) := by simpa using hp
 have h2 : tmps[p2]?.getD undef = .pointer (some ⟨g2, 0, none⟩) := by simpa using hp2
 simp [results, h, h1, h2, asAddr, run_loadVar_row w g t ty cs fr d hg hu hd hi, run_loadVar_row w g2 t2 ty2 cs2 fr2 d2 hg2 hu2 hd2 hi2]
inductive RB where
 | no
 | udp (us ud uc : Int) (ub : List Int)
 | tcp (ts td tq ta tf tw tc tu : Int) (to_ tb : List Int)
 | icmp (mt mc ms mr : Int) (mb : List Int)
structure LK where
 (a t pr i fl of_ s d : Int) (o b : List Int) (x : RB) (sp dp ff : Int) (inn : List S65) (e : Int)
def LK.err (e : Int) : LK := ⟨0, 0, 0, 0, 0, 0, 0, 0, [], [], .no, 0, 0, 0, [], e⟩
def RB.V (w : World) (base : Nat) (v : Value) : RB → Prop
 | .no => v = .nilIface
 | .udp us ud uc ub => ∃ v3 : Value, v = .iface 179 (.agg #[.int .u16 us, .int .u16 ud, .int .u16 uc, v3]) ∧ Kd.R (Kd.int .u8) 5 w base (fun _ => True) v3 ub
 | .tcp ts td tq ta tf tw tc tu to_ tb => ∃ v8 v9 : Value, v = .iface 181 (.agg #[.int .u16 ts, .int .u16 td, .int .u32 tq, .int .u32 ta, .int .u8 tf, .int .u16 tw, .int .u16 tc, .int .u16 tu, v8, v9]) ∧ Kd.R (Kd.int .u8) 5 w base (fun _ => True) v8 to_ ∧ Kd.R (Kd.int .u8) 5 w base (fun _ => True) v9 tb
 | .icmp mt mc ms mr mb => ∃ v4 : Value, v = .iface 183 (.agg #[.int .u8 mt, .int .u8 mc, .int .u16 ms, .int .u32 mr, v4]) ∧ Kd.R (Kd.int .u8) 5 w base (fun _ => True) v4 mb
def lookUdp (k : Nat) (a t i fl of_ s d : Int) (o b : List Int) : Option LK :=
 (udp_Parse.f b).bind fun ⟨us, ud, uc, ub, e⟩ => if e = 0 then (udp_Right.f k s d us ud uc ub).bind fun r => if r = true then some ⟨a, t, 17, i, fl, of_, s, d, o, b, .udp us ud uc ub, us, ud, 0, [], 0⟩ else some (LK.err 22) else some (LK.err e)
def lookIcmp (k : Nat) (a t i fl of_ s d : Int) (o b : List Int) : Option LK :=
 (icmp_Parse.f b).bind fun ⟨mt, mc, ms, mr, mb, e⟩ => if e = 0 then (icmp_Right.f k mt mc ms mr mb).bind fun r => if r = true then
  (rewrite_inner.f k mb).bind fun ⟨l, ok⟩ => (icmp_Echo.f mt mc ms mr mb).bind fun ec => if ec = true then some ⟨a, t, 1, i, fl, of_, s, d, o, b, .icmp mt mc ms mr mb, mr / 65536 % 65536, mr / 65536 % 65536, 0, [], 0⟩
  else (icmp_Error.f mt mc ms mr mb).bind fun er => if er = true then (if ok = true then some ⟨a, t, 1, i, fl, of_, s, d, o, b, .icmp mt mc ms mr mb, 0, 0, 0, l, 0⟩ else some (LK.err 21)) else some (LK.err 21)
  else some (LK.err 22) else some (LK.err e)
def LK.Post (r : LK) (base : Nat) (w0 : World) (e : Ending) (w' : World) : Prop :=
 ∃ v8 v9 vx vi : Value, e = .returned (.tuple #[.agg #[.int .u8 r.a, .int .u8 r.t, .int .u8 r.pr, .int .u16 r.i, .int .u8 r.fl, .int .u16 r.of_, .int .u32 r.s, .int .u32 r.d, v8, v9], vx, .agg #[.int .u8 r.pr, .int .u32 r.s, .int .u16 r.sp, .int .u32 r.d, .int .u16 r.dp, .int .u8 r.ff, vi], .int .i64 r.e]) ∧ Kd.R (Kd.int .u8) 5 w' base (fun _ => True) v8 r.o ∧ Kd.R (Kd.int .u8) 5 w' base (fun _ => True) v9 r.b ∧ r.x.V w' base vx ∧ Kd.R k65 65 w' base (fun _ => True) vi r.inn ∧ Below base w0 w'
def look.R9.T : Bool × List (List Nat × List Nat) := (true, [([], []), ([], []), ([0, 0], [0]), ([2, 0, 2], []), ([1, 3, 0, 1, 2, 3], [1]), ([4, 0, 1, 2, 3, 4], [])])
theorem look.R9.tab : rtab .any (opsOf Try.f69 9) = look.R9.T := by kernel_rfl
theorem look.R9.bits : waitsOk look.R9.T.2 [0, 0, 1, 5, 15, 31] = true := by kernel_rfl
def look.R21.T : Bool × List (List Nat × List Nat) := (true, [([], []), ([0], [0]), ([1], [1]), ([], []), ([3], [3]), ([4], [4]), ([0, 1, 2], []), ([6, 0, 1, 2], [6]), ([7, 2, 0, 1, 2], [2, 7]), ([0, 1, 2, 3, 4, 5, 6, 7, 8], []), ([9, 0, 1, 2, 3, 4, 5, 6, 7, 8], [9]), ([10, 5, 8, 0, 1, 2, 3, 4, 5, 6, 7, 8], [5, 10])])
theorem look.R21.tab : rtab .any (opsOf Try.f69 21) = look.R21.T := by kernel_rfl
theorem look.R21.bits : waitsOk look.R21.T.2 [0, 1, 3, 0, 8, 24, 7, 71, 199, 511, 1023, 2047] = true := by kernel_rfl
def look.R25.T : Bool × List (List Nat × List Nat) := (true, [([], []), ([], []), ([], []), ([0, 0], [0]), ([1, 3, 0, 1, 3], [1]), ([2, 4, 0, 1, 2, 3, 4], [2]), ([5, 0, 1, 2, 3, 4, 5], [])])
theorem look.R25.tab : rtab .any (opsOf Try.f69 25) = look.R25.T := by kernel_rfl
theorem look.R25.bits : waitsOk look.R25.T.2 [0, 0, 0, 1, 11, 31, 63] = true := by kernel_rfl
def look.R7.T : Bool × List (List Nat × List Nat) := (true, [([], []), ([], []), ([], []), ([0, 0], [0]), ([3, 0, 3], []), ([1, 4, 0, 1, 3, 4], [1]), ([2, 5, 0, 1, 2, 3, 4, 5], [2])])
theorem look.R7.tab : rtab .any (opsOf Try.f69 7) = look.R7.T := by kernel_rfl
theorem look.R7.bits : waitsOk look.R7.T.2 [0, 0, 0, 1, 9, 27, 63] = true := by kernel_rfl
def look.R24.T : Bool × List (List Nat × List Nat) := (true, [([], []), ([0], [0]), ([1], [1]), ([], []), ([3], [3]), ([4], [4]), ([], []), ([6], [6]), ([7], [7]), ([0, 1, 2], []), ([9, 0, 1, 2], [9]), ([10, 2, 0, 1, 2], [2, 10]), ([0, 1, 2, 3, 4, 5, 9, 10, 11], []), ([12, 0, 1, 2, 3, 4, 5, 9, 10, 11], [12]), ([13, 5, 11, 0, 1, 2, 3, 4, 5, 9, 10, 11], [5, 13]), ([0, 1, 2, 3, 4, 5, 6, 7, 8, 9, 10, 11, 12, 13, 14], []), ([15, 8, 14, 0, 1, 2, 3, 4, 5, 6, 7, 8, 9, 10, 11, 12, 13, 14], [8, 15])])
theorem look.R24.tab : rtab .any (opsOf Try.f69 24) = look.R24.T := by kernel_rfl
theorem look.R24.bits : waitsOk look.R24.T.2 [0, 1, 3, 0, 8, 24, 0, 64, 192, 7, 519, 1543, 3647, 7743, 15935, 32767, 65535] = true := by kernel_rfl
def look.R16.T : Bool × List (List Nat × List Nat) := (true, [([], []), ([0], [0]), ([1], [1]), ([2], [2]), ([], []), ([4], [4]), ([5], [5]), ([6], [6]), ([0, 1, 2, 3], []), ([8, 0, 1, 2, 3], [8]), ([9, 3, 0, 1, 2, 3], [3, 9]), ([0, 1, 2, 3, 4, 5, 6, 7, 8, 9, 10], []), ([11, 0, 1, 2, 3, 4, 5, 6, 7, 8, 9, 10], [11]), ([12, 7, 10, 0, 1, 2, 3, 4, 5, 6, 7, 8, 9, 10], [7, 12])])
theorem look.R16.tab : rtab .any (opsOf Try.f69 16) = look.R16.T := by kernel_rfl
theorem look.R16.bits : waitsOk look.R16.T.2 [0, 1, 3, 7, 0, 16, 48, 112, 15, 271, 783, 2047, 4095, 8191] = true := by kernel_rfl
def look.R18.T : Bool × List (List Nat × List Nat) := (true, [([], []), ([], []), ([0, 0], [0]), ([2, 0, 2], []), ([1, 3, 0, 1, 2, 3], [1]), ([4, 0, 1, 2, 3, 4], [])])
theorem look.R18.tab : rtab .any (opsOf Try.f69 18) = look.R18.T := by kernel_rfl
theorem look.R18.bits : waitsOk look.R18.T.2 [0, 0, 1, 5, 15, 31] = true := by kernel_rfl
def look.R4.T : Bool × List (List Nat × List Nat) := (true, [([], []), ([], []), ([], []), ([0, 0], [0]), ([3, 0, 3], []), ([1, 4, 0, 1, 3, 4], [1]), ([2, 5, 0, 1, 2, 3, 4, 5], [2])])
theorem look.R4.tab : rtab .any (opsOf Try.f69 4) = look.R4.T := by kernel_rfl
theorem look.R4.bits : waitsOk look.R4.T.2 [0, 0, 0, 1, 9, 27, 63] = true := by kernel_rfl
end Go.Proofs.Ytkmimamminddiaa.PB
namespace Go.Proofs.Ytkmimamminddiaa.PB
open Go.RowKit Go.Proofs.YtkmimamminddiaaW.PrintWords Go.Proofs.YtkmimamminddiaaW.PrintLast Go.Proofs.YtkmimamminddiaaW.PrintMore
attribute [local go_sem] max2_int min2_int max_two min_two max_three min_three max_four min_four   -- for this text's walks alone
set_option linter.unusedVariables false
set_option linter.unusedSimpArgs false
def tcp_Sum.f (k : Nat) (a0 : Int) (a1 : Int) (a2_0 : Int) (a2_1 : Int) (a2_2 : Int) (a2_3 : Int) (a2_4 : Int) (a2_5 : Int) (a2_6 : Int) (a2_7 : Int) (l2_8 : List Int) (l2_9 : List Int) : Option (Int) := (tcp_total.f k a0 a1 a2_0 a2_1 a2_2 a2_3 a2_4 a2_5 0 a2_7 l2_8 l2_9).bind fun bt723 => (if bt723.2 = true then (some (Go.bits .xor .u16 IntKind.u16.max bt723.1)) else (some 0))
def icmp_Sum.f (k : Nat) (a0_0 : Int) (a0_1 : Int) (a0_2 : Int) (a0_3 : Int) (l0_4 : List Int) : Option (Int) := (icmp_Bytes.f a0_0 a0_1 0 a0_3 l0_4).bind fun bt726 => (if bt726.2 = 0 then ((sum_Of.f k bt726.1).bind fun t730 => (some t730)) else (some 0))
theorem icmp_Sum.calls (k : Nat) (a0_0 : Int) (a0_1 : Int) (a0_2 : Int) (a0_3 : Int) (A0_4 : Option Addr) (c0_4 : Nat) (l0_4 : List Int) (r : Int) (w : World) (hr0_4 : Kd.C (Kd.int .u8) w A0_4 l0_4.length l0_4) (hc0_4 : l0_4.length ≤ c0_4) (h : icmp_Sum.f k a0_0 a0_1 a0_2 a0_3 l0_4 = some r) :
  Calls Try.prog 111 #[.agg #[.int .u8 a0_0, .int .u8 a0_1, .int .u16 a0_2, .int .u32 a0_3, .slice A0_4 l0_4.length c0_4]] w fun e w' => e = .returned (.int .u16 r) ∧ Below w.heap.size w w' := by
 have hu101 := Try.underlying101
 have HR0_4 := Aside0.mk hr0_4
 have HC0_4 := Aside0.mk hc0_4
 clear hr0_4 hc0_4
 have HB := Aside0.mk (Below.refl w.heap.size w)
 have H : ((icmp_Bytes.f a0_0 a0_1 0 a0_3 l0_4).bind fun bt726 => (if bt726.2 = 0 then ((sum_Of.f k bt726.1).bind fun t730 => (some t730)) else (some 0))) = some r := h
 clear h
 replace H := Option.bind_eq_some_iff.mp H
 obtain ⟨⟨t726, t729⟩, A20, H⟩ := H
 replace H : (if t729 = 0 then ((sum_Of.f k t726).bind fun t730 => (some t730)) else (some 0)) = some r := H
 have A2 := Aside0.mk A20
 clear A20
 by_cases c3 : t729 = 0
 ·rw [if_pos c3] at H
  have c3b0 : (t729 == 0) = true := beq_iff_eq.mpr c3
  have c3b1 : (t729 != 0) = false := bne_eq_false_iff_eq.mpr c3
  clear c3
  replace H := Option.bind_eq_some_iff.mp H
  obtain ⟨t730, A40, H⟩ := H
  replace H : (some t730) = some r := H
  have A4 := Aside0.mk A40
  clear A40
  obtain rfl := Option.some.inj H
  go_enter Try.func111, Try.ntmps111
  go_wp2_with (first | ((with_reducible refine gate_dst (N := 1) rfl ?_); refine box_event ?hg (N := 1) ?hd (cs := #[.int .u8 a0_0, .int .u8 a0_1, .int .u16 a0_2, .int .u32 a0_3, .slice A0_4 l0_4.length c0_4]) (t := 101) ?hr ?_; (case hd => rfl); (case hg => rfl); (case hr => first | (go_simp; done) | (go_simp; rfl)); intro gb725 hg w5 hbox hb; have n0_ := Aside0.mk (below_step (bz HB) hb); have n1_ := Aside0.mk (hbox); have n2_ := Aside0.mk ((by rw [hg]; exact (below_size (bz HB)) : w.heap.size ≤ gb725)); have n3_ := Aside0.mk ((by rw [hg]; exact (below_size (bz HB)) : w.heap.size ≤ gb725)); clear HB; have HB := n0_; have BK725 := n1_; have GW725 := n2_; have GE725 := n3_; clear n0_ n1_ n2_ n3_; clear hb hbox hg; have hcz6_0 : w5.cell? ⟨gb725, 0, none⟩ = some (.int .u8 a0_0) := cz BK725.out 0 rfl; have hcz6_1 : w5.cell? ⟨gb725, 1, none⟩ = some (.int .u8 a0_1) := cz BK725.out 1 rfl; have hcz6_2 : w5.cell? ⟨gb725, 2, none⟩ = some (.int .u16 a0_2) := cz BK725.out 2 rfl; have hcz6_3 : w5.cell? ⟨gb725, 3, none⟩ = some (.int .u32 a0_3) := cz BK725.out 3 rfl; have hcz6_4 : w5.cell? ⟨gb725, 4, none⟩ = some (.slice A0_4 l0_4.length c0_4) := cz BK725.out 4 rfl; have hfz6_0 := blk_frozen BK725.out 0; have hfz6_1 := blk_frozen BK725.out 1; have hfz6_2 := blk_frozen BK725.out 2; have hfz6_3 := blk_frozen BK725.out 3; have hfz6_4 := blk_frozen BK725.out 4) | ((with_reducible refine gate_callee (f := 112) rfl ?_); refine gL 8 Try.func112 #[.agg #[.int .u8 a0_0, .int .u8 a0_1, .int .u16 0, .int .u32 a0_3, .slice A0_4 l0_4.length c0_4]] ?_; (with_reducible refine (icmp_Bytes.calls a0_0 a0_1 0 a0_3 _ _ l0_4 t726 t729 _ ?side1 ?side2 A2.out).mono ?_); (case side1 => exact Kd.C_below HR0_4.out (bz HB)); (case side2 => exact HC0_4.out); rintro e w7 ⟨v727, rfl, ho0, hb⟩; refine ⟨_, rfl, ?_⟩; have n0_ := Aside0.mk (Kd.R_lower ho0 (below_size (bz HB))); have n1_ := Aside0.mk (blk_below (g := gb725) (o := .cells #[.int .u8 a0_0, .int .u8 a0_1, .int .u16 0, .int .u32 a0_3, .slice A0_4 l0_4.length c0_4] 101 (0, 0)) (by (with_reducible repeat (first | refine blk_drewN ?_ _ | refine blk_drew ?_ | refine blk_alloc ?_ _)); refine blk_put (cs := #[.int .u8 a0_0, .int .u8 a0_1, .int .u16 a0_2, .int .u32 a0_3, .slice A0_4 l0_4.length c0_4]) ?_ 2 _ rfl; (with_reducible repeat (first | refine blk_drewN ?_ _ | refine blk_drew ?_ | refine blk_alloc ?_ _)); exact BK725.out) hb); have n2_ := Aside0.mk (below_step (bz HB) hb); clear BK725; clear HB; have HO728 := n0_; have BK725 := n1_; have HB := n2_; clear n0_ n1_ n2_; (try clear hb); (try clear hb2); (try clear hk); (try clear hi); (try clear ho0); obtain ⟨Ao8, co8, eo8⟩ := Kd.R_slice HO728.out; subst eo8) | ((with_reducible refine gate_callee (f := 90) rfl ?_); refine gL 14 Try.func90 #[.slice Ao8 t726.length co8] ?_; (with_reducible refine (sum_Of.calls k _ _ t726 t730 _ ?side1 ?side2 A4.out).mono ?_); (case side1 => repeat (first | exact (Kd.R_reads' HO728.out).2.2 | (with_reducible refine Kd.C_alloc ?_ _) | (with_reducible refine Kd.C_drewN ?_ _) | (with_reducible refine Kd.C_drew ?_))); (case side2 => exact (Kd.R_reads' HO728.out).2.1); rintro e w9 ⟨rfl, hb⟩; refine ⟨_, rfl, ?_⟩; have n0_ := Aside0.mk (Kd.R_below (Kd.rz HO728) hb); have n1_ := Aside0.mk (blk_below (kz BK725) hb); have n2_ := Aside0.mk (below_step (bz HB) hb); clear HO728; clear BK725; clear HB; have HO728 := n0_; have BK725 := n1_; have HB := n2_; clear n0_ n1_ n2_; (try clear hb); (try clear hb2); (try clear hk); (try clear hi)))
  go_ret
  exact ⟨by first | rfl | (simp [errW_none, errW_some] <;> rfl) | (simp [*, errW_none, errW_some] <;> rfl), bz HB⟩
 ·rw [if_neg c3] at H
  have c3b0 : (t729 == 0) = false := beq_eq_false_iff_ne.mpr c3
  have c3b1 : (t729 != 0) = true := bne_iff_ne.mpr c3
  obtain rfl := Option.some.inj H
  go_enter Try.func111, Try.ntmps111
  go_wp2_with (first | ((with_reducible refine gate_dst (N := 1) rfl ?_); refine box_event ?hg (N := 1) ?hd (cs := #[.int .u8 a0_0, .int .u8 a0_1, .int .u16 a0_2, .int .u32 a0_3, .slice A0_4 l0_4.length c0_4]) (t := 101) ?hr ?_; (case hd => rfl); (case hg => rfl); (case hr => first | (go_simp; done) | (go_simp; rfl)); intro gb725 hg w10 hbox hb; have n0_ := Aside0.mk (below_step (bz HB) hb); have n1_ := Aside0.mk (hbox); have n2_ := Aside0.mk ((by rw [hg]; exact (below_size (bz HB)) : w.heap.size ≤ gb725)); have n3_ := Aside0.mk ((by rw [hg]; exact (below_size (bz HB)) : w.heap.size ≤ gb725)); clear HB; have HB := n0_; have BK725 := n1_; have GW725 := n2_; have GE725 := n3_; clear n0_ n1_ n2_ n3_; clear hb hbox hg; have hcz11_0 : w10.cell? ⟨gb725, 0, none⟩ = some (.int .u8 a0_0) := cz BK725.out 0 rfl; have hcz11_1 : w10.cell? ⟨gb725, 1, none⟩ = some (.int .u8 a0_1) := cz BK725.out 1 rfl; have hcz11_2 : w10.cell? ⟨gb725, 2, none⟩ = some (.int .u16 a0_2) := cz BK725.out 2 rfl; have hcz11_3 : w10.cell? ⟨gb725, 3, none⟩ = some (.int .u32 a0_3) := cz BK725.out 3 rfl; have hcz11_4 : w10.cell? ⟨gb725, 4, none⟩ = some (.slice A0_4 l0_4.length c0_4) := cz BK725.out 4 rfl; have hfz11_0 := blk_frozen BK725.out 0; have hfz11_1 := blk_frozen BK725.out 1; have hfz11_2 := blk_frozen BK725.out 2; have hfz11_3 := blk_frozen BK725.out 3; have hfz11_4 := blk_frozen BK725.out 4) | ((with_reducible refine gate_callee (f := 112) rfl ?_); refine gL 8 Try.func112 #[.agg #[.int .u8 a0_0, .int .u8 a0_1, .int .u16 0, .int .u32 a0_3, .slice A0_4 l0_4.length c0_4]] ?_; (with_reducible refine (icmp_Bytes.calls a0_0 a0_1 0 a0_3 _ _ l0_4 t726 t729 _ ?side1 ?side2 A2.out).mono ?_); (case side1 => exact Kd.C_below HR0_4.out (bz HB)); (case side2 => exact HC0_4.out); rintro e w12 ⟨v727, rfl, ho0, hb⟩; refine ⟨_, rfl, ?_⟩; have n0_ := Aside0.mk (Kd.R_lower ho0 (below_size (bz HB))); have n1_ := Aside0.mk (blk_below (g := gb725) (o := .cells #[.int .u8 a0_0, .int .u8 a0_1, .int .u16 0, .int .u32 a0_3, .slice A0_4 l0_4.length c0_4] 101 (0, 0)) (by (with_reducible repeat (first | refine blk_drewN ?_ _ | refine blk_drew ?_ | refine blk_alloc ?_ _)); refine blk_put (cs := #[.int .u8 a0_0, .int .u8 a0_1, .int .u16 a0_2, .int .u32 a0_3, .slice A0_4 l0_4.length c0_4]) ?_ 2 _ rfl; (with_reducible repeat (first | refine blk_drewN ?_ _ | refine blk_drew ?_ | refine blk_alloc ?_ _)); exact BK725.out) hb); have n2_ := Aside0.mk (below_step (bz HB) hb); clear BK725; clear HB; have HO728 := n0_; have BK725 := n1_; have HB := n2_; clear n0_ n1_ n2_; (try clear hb); (try clear hb2); (try clear hk); (try clear hi); (try clear ho0)))
  go_ret
  exact ⟨by first | rfl | (simp [errW_none, errW_some] <;> rfl) | (simp [*, errW_none, errW_some] <;> rfl), bz HB⟩
def rewrite_own.f (l0 : List Int) : Option (List Int × Int) := if 2 ≤ (l0.length : Int) then ((rewrite_two.f (l0.drop 2)).bind fun t734 => (if 0 ≤ t734 then (if t734 ≤ (l0.length : Int) then ((slices_Clone_byte_byte.f (l0.take (t734 : Int).toNat)).bind fun t736 => (if 0 < (l0.length : Int) then (some (t736, wrap64 (4 * (wrap64 (Go.bits .and .u8 (rd l0 0) 15))))) else (none))) else (none)) else (none))) else (none)
def rewrite_own.T1 : Bool × List (List Nat × List Nat) := (true, [([], []), ([], []), ([1], [1]), ([2], [2]), ([0, 3], [0, 3]), ([4, 3], [4]), ([], []), ([6], [6]), ([7], [7]), ([8], [8]), ([9], [9]), ([10], [10]), ([5, 5, 0, 1, 2, 3, 4, 5], [5]), ([11, 12, 0, 1, 2, 3, 4, 5, 6, 7, 8, 9, 10, 11, 12], [11])])
def rewrite_own.B1 : List Nat := [0, 0, 2, 6, 15, 31, 0, 64, 192, 448, 960, 1984, 63, 8191]
theorem rewrite_own.tab1 : rtab .any (opsOf Try.f77 1) = rewrite_own.T1 := by kernel_rfl
theorem rewrite_own.bits1 : waitsOk rewrite_own.T1.2 rewrite_own.B1 = true := by kernel_rfl
theorem rewrite_own.calls (A0 : Option Addr) (c0 : Nat) (l0 : List Int) (r1 : List Int) (r2 : Int) (w : World) (hr0 : Kd.C (Kd.int .u8) w A0 l0.length l0) (hc0 : l0.length ≤ c0) (h : rewrite_own.f l0 = some (r1, r2)) :
  Calls Try.prog 77 #[.slice A0 l0.length c0] w fun e w' => ∃ v0_ : Value, e = .returned (.tuple #[v0_, .int .i64 r2]) ∧ Kd.R (Kd.int .u8) 5 w' w.heap.size (fun _ => True) v0_ r1 ∧ Below w.heap.size w w' := by
 have HR0 := Aside0.mk hr0
 have HC0 := Aside0.mk hc0
 clear hr0 hc0
 have HB := Aside0.mk (Below.refl w.heap.size w)
 have H : (if 2 ≤ (l0.length : Int) then ((rewrite_two.f (l0.drop 2)).bind fun t734 => (if 0 ≤ t734 then (if t734 ≤ (l0.length : Int) then ((slices_Clone_byte_byte.f (l0.take (t734 : Int).toNat)).bind fun t736 => (if 0 < (l0.length : Int) then (some (t736, wrap64 (4 * (wrap64 (Go.bits .and .u8 (rd l0 0) 15))))) else (none))) else (none)) else (none))) else (none)) = some (r1, r2) := h
 clear h
 by_cases c2 : 2 ≤ (l0.length : Int)
 ·rw [if_pos c2] at H
  have c2b0 := eq_true c2
  have c2b1 : decide (2 ≤ (l0.length : Int)) = true := decide_eq_true c2
  clear c2
  replace H := Option.bind_eq_some_iff.mp H
  obtain ⟨t734, A30, H⟩ := H
  replace H : (if 0 ≤ t734 then (if t734 ≤ (l0.length : Int) then ((slices_Clone_byte_byte.f (l0.take (t734 : Int).toNat)).bind fun t736 => (if 0 < (l0.length : Int) then (some (t736, wrap64 (4 * (wrap64 (Go.bits .and .u8 (rd l0 0) 15))))) else (none))) else (none)) else (none)) = some (r1, r2) := H
  have A3 := Aside0.mk A30
  clear A30
  by_cases c4 : 0 ≤ t734
  ·rw [if_pos c4] at H
   have c4b0 := eq_true c4
   have c4b1 : decide (0 ≤ t734) = true := decide_eq_true c4
   clear c4
   by_cases c5 : t734 ≤ (l0.length : Int)
   ·rw [if_pos c5] at H
    have c5b0 := eq_true c5
    have c5b1 : decide (t734 ≤ (l0.length : Int)) = true := decide_eq_true c5
    clear c5
    replace H := Option.bind_eq_some_iff.mp H
    obtain ⟨t736, A60, H⟩ := H
    replace H : (if 0 < (l0.length : Int) then (some (t736, wrap64 (4 * (wrap64 (Go.bits .and .u8 (rd l0 0) 15))))) else (none)) = some (r1, r2) := H
    have A6 := Aside0.mk A60
    clear A60
    by_cases c7 : 0 < (l0.length : Int)
    ·rw [if_pos c7] at H
     have c7b0 : decide (0 < (l0.length : Int)) = true := decide_eq_true c7
     have c7b1 : decide (0 < l0.length) = true := decide_eq_true (by omega)
     clear c7
     simp only [Option.some.injEq, Prod.mk.injEq] at H
     obtain ⟨rfl, rfl⟩ := H
     go_enter Try.func77, Try.ntmps77
     try go_wp2
     have n0_ := Aside0.mk (below_drew1 HB.out)
     clear HB
     have HB := n0_
     clear n0_
     obtain ⟨i09, hi09, _, hsz9, _⟩ := info_parts info5
     obtain ⟨A9, hcut9, hA9, hC9⟩ := print_drop_of (P := Try.prog) (Value.int .u8) 0 23 5 .i64 Try.underlying23 hi09 hsz9 A0 c0 l0 2 (by omega) (of_decide_eq_true (by first | (with_reducible assumption) | assumption)) HC0.out
     have HR733 := Aside0.mk (Kd.C_of_reads (h1 := fun _ => rfl) (hA9 _ (Kd.reads_of_C HR0.out)))
     have HC733 := Aside0.mk hC9
     clear hA9 hC9 hi09 hsz9
     have p739 : 0 ≤ (0 : Int) := (by omega)
     have q739 : 0 < (l0.length : Int) := of_decide_eq_true (by first | (with_reducible assumption) | assumption)
     obtain ⟨ad739, e739, hx739_0⟩ := Kd.at_int HR0.out 0 p739 q739
     have hw739_0 := hx739_0
     (try rw [show ((0 : Int)).toNat = 0 from rfl] at hw739_0)
     (try rw [show 0 * 1 = 0 from rfl] at hw739_0)
     (try rw [Addr.add_zero'] at hw739_0)
     cases e739
     have qi739 : (0 < l0.length) = True := eq_true (by omega)
     (try rw [show ((0 : Int)).toNat = 0 from rfl] at hx739_0)
     (try rw [Addr.add_zero'] at hx739_0)
     replace hx739_0 := (HB.out.cell (World.block_lt_of_cell? w _ hx739_0)).trans hx739_0
     replace p739 := eq_true p739
     replace q739 := eq_true q739
     refine start_ (n := 14) (S := fun w' => w'.cell? ad739 = some (.int .u8 (rd l0 0))) (ds := []) #[false, false, false, false, false, false, false, false, false, false, false, false, false, false] (by kernel_rfl) rfl rfl (((HB.out.cell (World.block_lt_of_cell? w _ hw739_0)).trans hw739_0)) (fun hHeld => ?_); refine with_tabW rewrite_own.tab1 rewrite_own.bits1 (fun HT_ HW_ => ?_)
     generalize w.drew = w8 at HB HR733 hx739_0 hHeld ⊢
     refine pz 0 4 HT_ ?_
     refine pz 1 5 HT_ ?_
     refine pz 2 6 HT_ ?_
     refine pz 6 10 HT_ ?_
     refine pz 7 11 HT_ ?_
     refine tz 8 12 HT_ HW_ hHeld ?_
     refine pz 9 13 HT_ ?_
     refine pz 10 14 HT_ ?_
     refine pz 11 15 HT_ ?_
     refine oz 3 (some 7) HT_ (fun K hK => ?_)
     refine goes_ Try.func87 (by kernel_rfl) rfl #[.slice A9 (l0.drop 2).length (c0 - 2)] (by rfl) rfl rfl (by (try simp only [List.map_toArray, List.map_cons, List.map_nil]); first | done | (rw [show (l0.drop 2).length = (l0.length - 2) from List.length_drop] <;> rfl) | rfl | (simp only [List.length_drop, List.length_take]; rfl) | (go_simp; done) | (simp [Act.eval, IntKind.signed]; done) | (simp [Act.eval, IntKind.signed]; rfl)) ?_
     with_reducible refine (rewrite_two.calls _ _ (l0.drop 2) t734 _ ?side1 ?side2 A3.out).mono ?_
     (case side1 => exact Kd.C_below HR733.out (bz HB))
     (case side2 => exact HC733.out)
     rintro e w' ⟨rfl, ⟨nd, rfl⟩⟩
     refine ⟨_, rfl, ?_⟩
     obtain ⟨i010, hi010, _, hsz10, _⟩ := info_parts info5
     obtain ⟨hcut10, hA10, hC10⟩ := print_take_of (P := Try.prog) (Value.int .u8) 0 23 5 .u16 Try.underlying23 hi010 hsz10 (some ad739) c0 l0 t734 (of_decide_eq_true (by first | (with_reducible assumption) | assumption)) (of_decide_eq_true (by first | (with_reducible assumption) | assumption)) HC0.out
     have HR735 := Aside0.mk (Kd.C_of_reads (h1 := fun _ => rfl) (hA10 _ (Kd.reads_of_C HR0.out)))
     have HC735 := Aside0.mk hC10
     clear hA10 hC10 hi010 hsz10
     refine hK.out _ _ (((HB.out.cell (World.block_lt_of_cell? w _ hw739_0)).trans hw739_0)) (fun hHeld => ?_)
     clear hK K
     refine nz 7 ?_
     refine pz 4 8 HT_ ?_
     refine oz 5 (some 9) HT_ (fun K hK => ?_)
     refine goes_ Try.func97 (by kernel_rfl) rfl #[.slice (some ad739) (l0.take (t734 : Int).toNat).length c0] (by rfl) rfl rfl (by (try simp only [List.map_toArray, List.map_cons, List.map_nil]); first | done | (rw [show (l0.take (t734 : Int).toNat).length = t734.toNat from (by rw [List.length_take]; have h_ : (t734 : Int) ≤ (l0.length : Int) := of_decide_eq_true (by first | (with_reducible assumption) | assumption); omega)] <;> rfl) | rfl | (simp only [List.length_drop, List.length_take]; rfl) | (go_simp; done) | (simp [Act.eval, IntKind.signed]; done) | (simp [Act.eval, IntKind.signed]; rfl)) ?_
     with_reducible refine (slices_Clone_byte_byte.calls _ _ (l0.take (t734 : Int).toNat) t736 _ ?side1 ?side2 A6.out).mono ?_
     (case side1 => exact Kd.C_below HR735.out (bz HB))
     (case side2 => exact HC735.out)
     rintro e w11 ⟨v737, rfl, ho0, hb⟩
     refine ⟨_, rfl, ?_⟩
     have n0_ := Aside0.mk (Kd.R_lower ho0 (below_size (bz HB)))
     have n1_ := Aside0.mk (below_step (bz HB) hb)
     clear HB
     have HO738 := n0_
     have HB := n1_
     clear n0_ n1_
     (try clear hb)
     (try clear hb2)
     (try clear hk)
     (try clear hi)
     (try clear ho0)
     refine hK.out _ _ (((HB.out.cell (World.block_lt_of_cell? w _ hw739_0)).trans hw739_0)) (fun hHeld => ?_)
     clear hK K
     refine nz 9 ?_
     refine pz 12 2 HT_ ?_
     refine pz 13 3 HT_ ?_
     refine dz HT_ ?_
     try go_wp2
     go_ret2
     exact ⟨_, by first | rfl | (simp [errW_none, errW_some] <;> rfl) | (simp [*, errW_none, errW_some] <;> rfl), by (with_reducible repeat (first | apply Kd.R_alloc | apply Kd.R_drewN | apply Kd.R_drew)); exact HO738.out, bz HB⟩
    ·rw [if_neg c7] at H
     exact absurd H (by simp)
   ·rw [if_neg c5] at H
    exact absurd H (by simp)
  ·rw [if_neg c4] at H
   exact absurd H (by simp)
 ·rw [if_neg c2] at H
  exact absurd H (by simp)
end Go.Proofs.Ytkmimamminddiaa.PB
/- rewrite.pointed: what it tells. -/
namespace Go.Proofs.Ytkmimamminddiaa.PB
open Go.RowKit Go.Proofs.YtkmimamminddiaaW.PrintWords Go.Proofs.YtkmimamminddiaaW.PrintLast Go.Proofs.YtkmimamminddiaaW.PrintMore
set_option linter.unusedVariables false
set_option linter.unusedSimpArgs false
attribute [local go_sem] inR179
attribute [local go_sem] inP179
attribute [local go_sem] inR181
attribute [local go_sem] inP181
attribute [local go_sem] inR183
attribute [local go_sem] inP183
attribute [local go_sem] inT179
attribute [local go_sem] inT181
attribute [local go_sem] inT183
attribute [local go_sem] inF179
attribute [local go_sem] inF181
attribute [local go_sem] inF183
theorem RB.V_below {w w1 : World} {base : Nat} {v : Value} {x : RB} (h : x.V w base v) (hb : Below w.heap.size w w1) : x.V w1 base v := by
 cases x with
 | no => exact h
 | udp => obtain ⟨v3, e, h3⟩ := h; exact ⟨v3, e, Kd.R_below h3 hb⟩
 | tcp => obtain ⟨v8, v9, e, h8, h9⟩ := h; exact ⟨v8, v9, e, Kd.R_below h8 hb, Kd.R_below h9 hb⟩
 | icmp => obtain ⟨v4, e, h4⟩ := h; exact ⟨v4, e, Kd.R_below h4 hb⟩
theorem RB.V_off {W w1 : World} {base : Nat} {v : Value} {x : RB} {g t : Nat} {ds : Array Value} (h : Off W w1 g) (hx : x.V W base v) (hg : W.heap[g]? = some (.cells ds t (0, 0))) (ht : 5 ≠ t) : x.V w1 base v := by
 cases x with
 | no => exact hx
 | udp => obtain ⟨v3, e, h3⟩ := hx; exact ⟨v3, e, Off.R h h3 hg ht⟩
 | tcp => obtain ⟨v8, v9, e, h8, h9⟩ := hx; exact ⟨v8, v9, e, Off.R h h8 hg ht, Off.R h h9 hg ht⟩
 | icmp => obtain ⟨v4, e, h4⟩ := hx; exact ⟨v4, e, Off.R h h4 hg ht⟩
theorem mV {w w1 : World} {base : Nat} {v : Value} {x : RB} (h : Aside0 (x.V w base v)) (hb : Below w.heap.size w w1) : Aside0 (x.V w1 base v) := ⟨RB.V_below h.out hb⟩
theorem oV {W w1 : World} {base : Nat} {v : Value} {x : RB} {g t : Nat} {ds : Array Value} (o : Off W w1 g) (h : Aside0 (x.V W base v)) (hg : Aside0 (W.heap[g]? = some (.cells ds t (0, 0)))) (ht : 5 ≠ t) : Aside0 (x.V w1 base v) := ⟨RB.V_off o h.out hg.out ht⟩
def pointed.f (k : Nat) (si sp di dp : Int) : RB → Option (List Int)
 | .no => none
 | .udp _ _ uc ub => if uc = 0 then (udp_Bytes.f sp dp uc ub).bind fun r => some r.1 else (udp_Sum.f k si di sp dp uc ub).bind fun c => (udp_Bytes.f sp dp c ub).bind fun r => some r.1
 | .tcp _ _ tq ta tf tw tc tu to_ tb => (tcp_Sum.f k si di sp dp tq ta tf tw tc tu to_ tb).bind fun c => (tcp_Bytes.f k sp dp tq ta tf tw c tu to_ tb).bind fun r => some r.1
 | .icmp mt mc ms mr mb => (icmp_Echo.f mt mc ms mr mb).bind fun ec => if ec = true then (icmp_Sum.f k mt mc ms (Go.bits .or .u32 (Go.bits .and .u32 mr 65535) (sp % 4294967296 * 65536 % 4294967296)) mb).bind fun c => (icmp_Bytes.f mt mc c (Go.bits .or .u32 (Go.bits .and .u32 mr 65535) (sp % 4294967296 * 65536 % 4294967296)) mb).bind fun r => some r.1
  else (icmp_Sum.f k mt mc ms mr mb).bind fun c => (icmp_Bytes.f mt mc c mr mb).bind fun r => some r.1
def pointed.R10.T : Bool × List (List Nat × List Nat) := (true, [([], []), ([0], [0]), ([], []), ([2], [2]), ([0, 1], []), ([4, 1, 0, 1], [1, 4]), ([0, 1, 2, 3, 4, 5], []), ([6, 3, 5, 0, 1, 2, 3, 4, 5], [3, 6])])
theorem pointed.R10.tab : rtab .any (opsOf Try.f70 10) = pointed.R10.T := by kernel_rfl
theorem pointed.R10.bits : waitsOk pointed.R10.T.2 [0, 1, 0, 4, 3, 19, 63, 127] = true := by kernel_rfl
def pointed.R16.T : Bool × List (List Nat × List Nat) := (true, [([], []), ([0], [0]), ([], []), ([2], [2]), ([0, 1], []), ([4, 1, 0, 1], [1, 4]), ([0, 1, 2, 3, 4, 5], []), ([6, 3, 5, 0, 1, 2, 3, 4, 5], [3, 6])])
theorem pointed.R16.tab : rtab .any (opsOf Try.f70 16) = pointed.R16.T := by kernel_rfl
theorem pointed.R16.bits : waitsOk pointed.R16.T.2 [0, 1, 0, 4, 3, 19, 63, 127] = true := by kernel_rfl
end Go.Proofs.Ytkmimamminddiaa.PB
/- rewrite.Look over rewrite.look. -/
namespace Go.Proofs.Ytkmimamminddiaa.PB
open Go.RowKit Go.Proofs.YtkmimamminddiaaW.PrintWords Go.Proofs.YtkmimamminddiaaW.PrintLast Go.Proofs.YtkmimamminddiaaW.PrintMore
set_option linter.unusedVariables false
set_option linter.unusedSimpArgs false
attribute [local go_sem] inR179
attribute [local go_sem] inP179
attribute [local go_sem] inR181
attribute [local go_sem] inP181
attribute [local go_sem] inR183
attribute [local go_sem] inP183
attribute [local go_sem] inT179
attribute [local go_sem] inT181
attribute [local go_sem] inT183
attribute [local go_sem] inF179
attribute [local go_sem] inF181
attribute [local go_sem] inF183
def Look.R2.T : Bool × List (List Nat × List Nat) := (true, [([], []), ([], []), ([], []), ([0, 0], [0]), ([1, 3, 0, 1, 3], [1]), ([2, 4, 0, 1, 2, 3, 4], [2])])
theorem Look.R2.tab : rtab .any (opsOf Try.f36 2) = Look.R2.T := by kernel_rfl
theorem Look.R2.bits : waitsOk Look.R2.T.2 [0, 0, 0, 1, 11, 31] = true := by kernel_rfl
def LK.Told (r : LK) (base : Nat) (w0 : World) (e : Ending) (w' : World) : Prop :=
 ∃ v8 v9 vi : Value, e = .returned (.tuple #[.agg #[.int .u8 r.a, .int .u8 r.t, .int .u8 r.pr, .int .u16 r.i, .int .u8 r.fl, .int .u16 r.of_, .int .u32 r.s, .int .u32 r.d, v8, v9], .agg #[.int .u8 r.pr, .int .u32 r.s, .int .u16 r.sp, .int .u32 r.d, .int .u16 r.dp, .int .u8 r.ff, vi], .int .i64 r.e]) ∧ Kd.R (Kd.int .u8) 5 w' base (fun _ => True) v8 r.o ∧ Kd.R (Kd.int .u8) 5 w' base (fun _ => True) v9 r.b ∧ Kd.R k65 65 w' base (fun _ => True) vi r.inn ∧ Below base w0 w'
theorem rewrite_Look.via (A : Option Addr) (c : Nat) (l : List Int) (r : LK) (w : World) (hC : Kd.C (Kd.int .u8) w A l.length l) (hL : l.length ≤ c) (h69 : ∀ w2 : World, Kd.C (Kd.int .u8) w2 A l.length l → Calls Try.prog 69 #[.slice A l.length c] w2 fun e w' => r.Post w2.heap.size w2 e w') :
  Calls Try.prog 36 #[.slice A l.length c] w fun e w' => r.Told w.heap.size w e w' := by
 have hu65 := Try.underlying65
 have hu73 := Try.underlying73
 have hu76 := Try.underlying76
 obtain ⟨a, t, pr, i, fl, of_, s, d, o, b, x, sp, dp, ff, inn, e_⟩ := r
 have HB := Aside0.mk (Below.refl w.heap.size w)
 have HC := Aside0.mk hC
 have HL := Aside0.mk hL
 have HP := Aside0.mk h69
 have HI65 : Aside0 ((Try.prog.info? 65).map (·.size) = some 2) := ⟨by kernel_rfl⟩
 have HI73 : Aside0 ((Try.prog.info? 73).map (·.size) = some 10) := ⟨by kernel_rfl⟩
 have HI76 : Aside0 ((Try.prog.info? 76).map (·.size) = some 7) := ⟨by kernel_rfl⟩
 clear hC hL h69
 go_enter Try.func36, Try.ntmps36
 go_upto_region 1 with (first | ((with_reducible refine gate_dst (N := 2) rfl ?_); refine box_event ?hg_ (N := 2) ?hd_ (cs := #[.int .u8 0, .int .u8 0, .int .u8 0, .int .u16 0, .int .u8 0, .int .u16 0, .int .u32 0, .int .u32 0, .slice none 0 0, .slice none 0 0]) (t := 73) ?hr_ ?_; (case hd_ => rfl); (case hg_ => rfl); (case hr_ => first | (go_simp; done) | (go_simp; rfl)); intro gr hgg_ w1 hbox_ hbb_; have GHXr := Aside0.mk (show w.heap.size ≤ gr by rw [hgg_]; exact below_size HB.out); have HXr := Aside0.mk hbox_; have hb_ := hbb_; replace HB := mB HB hb_; clear hb_; clear hgg_ hbox_ hbb_) | ((with_reducible refine gate_dst (N := 3) rfl ?_); refine box_event ?hg_ (N := 3) ?hd_ (cs := #[.int .u8 0, .int .u32 0, .int .u16 0, .int .u32 0, .int .u16 0, .int .u8 0, .slice none 0 0]) (t := 76) ?hr_ ?_; (case hd_ => rfl); (case hg_ => rfl); (case hr_ => first | (go_simp; done) | (go_simp; rfl)); intro gq hgg_ w2 hbox_ hbb_; have GHXq := Aside0.mk (show w.heap.size ≤ gq by rw [hgg_]; exact below_size HB.out); have HXq := Aside0.mk hbox_; have hb_ := hbb_; replace HB := mB HB hb_; replace HXr := mX HXr hb_; clear hb_; clear hgg_ hbox_ hbb_))
 go_wp2_with fail
 refine (HP.out _ (Kd.C_below HC.out HB.out)).mono ?_
 rintro ev w3 hpost
 obtain ⟨vo, vb, vx, vi, rfl, ho, ho2, hx, hi, hb⟩ := hpost
 dsimp only at ho ho2 hx hi
 have HRo := Aside0.mk (Kd.R_mono (Kd.R_lower ho (below_size HB.out)) (ok' := fun _ => True) (fun _ _ => trivial))
 obtain ⟨Ao, co, rfl, _, _⟩ := Kd.R_reads ho
 clear ho
 have HRb := Aside0.mk (Kd.R_mono (Kd.R_lower ho2 (below_size HB.out)) (ok' := fun _ => True) (fun _ _ => trivial))
 obtain ⟨Ab, cb, rfl, _, _⟩ := Kd.R_reads ho2
 clear ho2
 have HRi := Aside0.mk (Kd.R_lower hi (below_size HB.out))
 obtain ⟨Ai, ci, rfl, _, _⟩ := Kd.R_reads hi
 clear hi
 clear hx
 have hb_ := hb
 replace HB := mB HB hb_
 replace HXr := mX HXr hb_
 replace HXq := mX HXq hb_
 clear hb_
 clear hb HP
 (try dsimp only)
 go_upto_region 2 with (first | ((with_reducible refine gate_dst (N := 5) rfl ?_); refine box_event ?hg_ (N := 5) ?hd_ (cs := #[.int .u8 0, .int .u8 0, .int .u8 0, .int .u16 0, .int .u8 0, .int .u16 0, .int .u32 0, .int .u32 0, .slice none 0 0, .slice none 0 0]) (t := 73) ?hr_ ?_; (case hd_ => rfl); (case hg_ => rfl); (case hr_ => first | (go_simp; done) | (go_simp; rfl)); intro gp hgg_ w4 hbox_ hbb_; have GHXp := Aside0.mk (show w.heap.size ≤ gp by rw [hgg_]; exact below_size HB.out); have HXp := Aside0.mk hbox_; have NE_HXr_HXp : Aside0 (gr ≠ gp) := ⟨by rw [hgg_]; exact (blk_less HXr).out⟩; have hb_ := hbb_; replace HB := mB HB hb_; replace HXr := mX HXr hb_; replace HXq := mX HXq hb_; replace HRo := mR HRo hb_; replace HRb := mR HRb hb_; replace HRi := mI HRi hb_; clear hb_; clear hgg_ hbox_ hbb_) | ((with_reducible refine gate_dst (N := 7) rfl ?_); refine box_event ?hg_ (N := 7) ?hd_ (cs := #[.int .u8 0, .int .u32 0, .int .u16 0, .int .u32 0, .int .u16 0, .int .u8 0, .slice none 0 0]) (t := 76) ?hr_ ?_; (case hd_ => rfl); (case hg_ => rfl); (case hr_ => first | (go_simp; done) | (go_simp; rfl)); intro gf hgg_ w5 hbox_ hbb_; have GHXf := Aside0.mk (show w.heap.size ≤ gf by rw [hgg_]; exact below_size HB.out); have HXf := Aside0.mk hbox_; have NE_HXq_HXf : Aside0 (gq ≠ gf) := ⟨by rw [hgg_]; exact (blk_less HXq).out⟩; have hb_ := hbb_; replace HB := mB HB hb_; replace HXr := mX HXr hb_; replace HXq := mX HXq hb_; replace HRo := mR HRo hb_; replace HRb := mR HRb hb_; replace HRi := mI HRi hb_; replace HXp := mX HXp hb_; clear hb_; clear hgg_ hbox_ hbb_) | ((refine rw_putrow rfl rfl rfl rfl rfl HXp.out HI73.out rfl (by simp [Value.oneCell']) ?_); intro w6 hs_ off_; replace HXr := oN off_ HXr NE_HXr_HXp; replace HXq := oX off_ HXq HXp (by decide); replace HRo := oR off_ HRo HXp (by decide); replace HRb := oR off_ HRb HXp (by decide); replace HRi := oI off_ HRi HXp (by decide); replace HXf := oX off_ HXf HXp (by decide); replace HB := oB off_ HB GHXp; clear off_; replace HXp := Aside0.mk hs_; clear hs_) | ((refine rw_putrow rfl rfl rfl rfl rfl HXf.out HI76.out rfl (by simp [Value.oneCell']) ?_); intro w7 hs_ off_; replace HXr := oX off_ HXr HXf (by decide); replace HXq := oN off_ HXq NE_HXq_HXf; replace HRo := oR off_ HRo HXf (by decide); replace HRb := oR off_ HRb HXf (by decide); replace HRi := oI off_ HRi HXf (by decide); replace HXp := oX off_ HXp HXf (by decide); replace HB := oB off_ HB GHXf; clear off_; replace HXf := Aside0.mk hs_; clear hs_))
 refine start_ (n := 6) (S := fun w' => w'.heap[gp]? = some (.cells #[.int .u8 a, .int .u8 t, .int .u8 pr, .int .u16 i, .int .u8 fl, .int .u16 of_, .int .u32 s, .int .u32 d, .slice Ao o.length co, .slice Ab b.length cb] 73 (0, 0)) ∧ w'.heap[gf]? = some (.cells #[.int .u8 pr, .int .u32 s, .int .u16 sp, .int .u32 d, .int .u16 dp, .int .u8 ff, .slice Ai inn.length ci] 76 (0, 0))) (ds := []) #[false, false, false, false, false, false] (by kernel_rfl) rfl rfl ⟨HXp.out, HXf.out⟩ (fun hHeld => ?_)
 refine with_tabW Look.R2.tab Look.R2.bits (fun HT_ HW_ => ?_)
 have hb_ := below_drew1 (Below.refl w7.heap.size w7)
 replace HB := mB HB hb_
 replace HXr := mX HXr hb_
 replace HXq := mX HXq hb_
 replace HRo := mR HRo hb_
 replace HRb := mR HRb hb_
 replace HRi := mI HRi hb_
 replace HXp := mX HXp hb_
 replace HXf := mX HXf hb_
 clear hb_
 generalize w7.drew = w8 at HB HXr HXq HRo HRb HRi HXp HXf hHeld ⊢
 refine pz 2 18 HT_ ?_
 refine take_ (i := 0) (N := some 16) (v := (.agg #[.int .u8 a, .int .u8 t, .int .u8 pr, .int .u16 i, .int .u8 fl, .int .u16 of_, .int .u32 s, .int .u32 d, .slice Ao o.length co, .slice Ab b.length cb])) #[true, false, true, false, false, false] rfl rfl (take_ofW HT_.out HW_.out (by kernel_rfl)) (fun _ _ _ h => h) (Or.inl ⟨by rfl, fun w' s0 => ?_⟩) hHeld rfl ?_
 ·obtain ⟨s0, s1⟩ := s0
  exact rw_load (p := .tmp 5) (ty := 73) (by rfl) (by rfl) s0 hu73 (by rfl) HI73.out
 refine nz 16 ?_
 refine take_ (i := 1) (N := some 17) (v := (.agg #[.int .u8 pr, .int .u32 s, .int .u16 sp, .int .u32 d, .int .u16 dp, .int .u8 ff, .slice Ai inn.length ci])) #[true, true, true, false, false, false] rfl rfl (take_ofW HT_.out HW_.out (by kernel_rfl)) (fun _ _ _ h => h) (Or.inl ⟨by rfl, fun w' s0 => ?_⟩) hHeld rfl ?_
 ·obtain ⟨s0, s1⟩ := s0
  exact rw_load (p := .tmp 7) (ty := 76) (by rfl) (by rfl) s1 hu76 (by rfl) HI76.out
 refine nz 17 ?_
 refine oz 3 (none) HT_ (fun K hK => ?_)
 refine skip_row (by rfl) (by rfl) rfl rfl rfl HXr.out HI73.out rfl (by simp [Value.oneCell']) ?_
 intro w9 hs_ off_
 replace HXq := oX off_ HXq HXr (by decide)
 replace HRo := oR off_ HRo HXr (by decide)
 replace HRb := oR off_ HRb HXr (by decide)
 replace HRi := oI off_ HRi HXr (by decide)
 replace HXp := oN off_ HXp (ne_sym NE_HXr_HXp)
 replace HXf := oX off_ HXf HXr (by decide)
 replace HB := oB off_ HB GHXr
 clear off_
 replace HXr := Aside0.mk hs_
 clear hs_
 refine hK.out _ _ ⟨HXp.out, HXf.out⟩ (fun hHeld => ?_)
 clear hK K
 refine oz 4 (none) HT_ (fun K hK => ?_)
 refine skip_row (by rfl) (by rfl) rfl rfl rfl HXq.out HI76.out rfl (by simp [Value.oneCell']) ?_
 intro w10 hs_ off_
 replace HXr := oX off_ HXr HXq (by decide)
 replace HRo := oR off_ HRo HXq (by decide)
 replace HRb := oR off_ HRb HXq (by decide)
 replace HRi := oI off_ HRi HXq (by decide)
 replace HXp := oX off_ HXp HXq (by decide)
 replace HXf := oN off_ HXf (ne_sym NE_HXq_HXf)
 replace HB := oB off_ HB GHXq
 clear off_
 replace HXq := Aside0.mk hs_
 clear hs_
 refine hK.out _ _ ⟨HXp.out, HXf.out⟩ (fun hHeld => ?_)
 clear hK K
 refine pz 5 4 HT_ ?_
 refine dz HT_ ?_
 clear HT_ HW_ hHeld
 (try dsimp only)
 go_wp2
 (try simp only [Exit.inBlock, Exit.then])
 refine bodyPost_ret (results_cct rfl _ _ gr gq 73 76 #[.int .u8 a, .int .u8 t, .int .u8 pr, .int .u16 i, .int .u8 fl, .int .u16 of_, .int .u32 s, .int .u32 d, .slice Ao o.length co, .slice Ab b.length cb] #[.int .u8 pr, .int .u32 s, .int .u16 sp, .int .u32 d, .int .u16 dp, .int .u8 ff, .slice Ai inn.length ci] (0, 0) (0, 0) _ _ rfl HXr.out hu73 rfl HI73.out rfl HXq.out hu76 rfl HI76.out) rfl ?_
 exact ⟨_, _, _, rfl, HRo.out, HRb.out, HRi.out, HB.out⟩
end Go.Proofs.Ytkmimamminddiaa.PB
