-- written by a patched print
import Derived.Test.YtmlmiiejifhfeaaPAx0
import Derived.Test.YtmlmiiejifhfeaaPAx1
import Derived.Test.YtmlmiiejifhfeaaPAx3
import Derived.Test.YtmlmiiejifhfeaaPAx4
namespace Go.Proofs.Ytmlmiiejifhfeaa.PA
open Go.RowKit Go.Proofs.YtmlmiiejifhfeaaW.PrintWords Go.Proofs.YtmlmiiejifhfeaaW.PrintLast Go.Proofs.YtmlmiiejifhfeaaW.PrintMore
attribute [local go_sem] max2_int min2_int max_two min_two max_three min_three max_four min_four   -- for this text's walks alone
set_option linter.unusedVariables false
set_option linter.unusedSimpArgs false

/-! ### ip_Parse: function 12 -/
/-- A call that ends in a panic, in a plain region. -/
theorem ip_Parse.goesP {P : Program} {ops : Array Oper} {Q : Exit → Act → World → Prop} {rest : List Oper} {oi : Oper} {a : Act} {w : World} (N : Option Tmp) (_hd : oi.dst = N) (hg : oi.guard = none) {f : FuncId} {fn : Func} {as_ : Array Operand} {ts : Array TypeId} (hf : P.funcs[f]? = some fn) (hname : (fn.name == "runtime.NumGoroutine") = false) (hb : fn.body.isSome = true) (args : Array Value)
  (hop : oi.op = .call { callee := .value (.func f), args := as_, argTypes := ts }) (hargs : as_.map a.eval = args)
  (h : Calls P f args w fun e w' => ∃ ch, e = .panicked ch ∧ Q (.panic ch) a w') : wpList P ops Q (oi :: rest) a w := by
 refine wpList_plain hg fun K hK => ?_
 have he := enters_ hf hname hb args w
 have hrun : (execOp a.eval oi).run P w = .ok (.enter f args) w := by
  unfold execOp
  simp [hop, resolve, Deferred.ofValue, invoke, Act.eval, hargs, he]
 unfold Oper.wp
 rw [hrun, Oper.upon_enter]
 refine h.mono fun e w'' hh => ?_
 obtain ⟨ch, rfl, hk⟩ := hh
 exact hk

theorem ip_must.panics (a0 : Bool) (a1 : Int) (w : World) (h : a0 = false) : Calls Try.prog 30 #[.bool a0, .int .i64 a1] w fun e w' => e = .panicked [{ v := .iface 52 (.agg #[.int .i64 a1]), recovered := false }] ∧ Drawn0 w w' := by
 subst h
 have hu52 := Try.underlying52
 go_enter Try.func30, Try.ntmps30
 go_wp2
 exact ⟨rfl, rfl, by repeat (first | exact Drawn0.refl _ | apply Drawn0.step)⟩

def ip_Parse.T5 : Bool × List (List Nat × List Nat) := (true, [([], []), ([], []), ([1], [1]), ([0, 0], [0]), ([2, 3, 0, 1, 2, 3], [2])])
def ip_Parse.B5 : List Nat := [0, 0, 2, 1, 15]
theorem ip_Parse.tab5 : rtab .any (opsOf Try.f21 5) = ip_Parse.T5 := by kernel_rfl
theorem ip_Parse.bits5 : waitsOk ip_Parse.T5.2 ip_Parse.B5 = true := by kernel_rfl
theorem ip_Parse.isFailed (x : Int) (w : World) : (Instr.typeAssert (.iface 52 (.agg #[.int .i64 x])) 20 52 true).run Try.prog w = .ok (.tuple #[.agg #[.int .i64 x], .bool true]) w := by kernel_rfl
set_option maxHeartbeats 400000 in
set_option maxRecDepth 100000 in
theorem ip_Parse.catch_panicking (x : Int) (w0 w : World) (B gp ge : Nat) (hp : w.heap[gp]? = some (.cells #[.int .u8 0, .int .u8 0, .int .u8 0, .int .u16 0, .int .u8 0, .int .u16 0, .int .u32 0, .int .u32 0, .slice none 0 0, .slice none 0 0] 30 (0, 0)))
  (he : w.heap[ge]? = some (.cells #[.int .i64 0] 31 (0, 0))) (hne : gp ≠ ge) (hB : Below B w0 w) (hBp : B ≤ gp) (hBe : B ≤ ge) :
  CallsD Try.prog 21 #[.pointer (some ⟨gp, 0, none⟩), .pointer (some ⟨ge, 0, none⟩)] (.panicking [{ v := .iface 52 (.agg #[.int .i64 x]), recovered := false }]) w fun e u' w' =>
   e = .returned (.tuple #[]) ∧ u' = .panicking [{ v := .iface 52 (.agg #[.int .i64 x]), recovered := true }] ∧
   w'.heap[gp]? = some (.cells #[.int .u8 0, .int .u8 0, .int .u8 0, .int .u16 0, .int .u8 0, .int .u16 0, .int .u32 0, .int .u32 0, .slice none 0 0, .slice none 0 0] 30 (0, 0)) ∧
   w'.heap[ge]? = some (.cells #[.int .i64 x] 31 (0, 0)) ∧ Below B w0 w' := by
 have HP := Aside0.mk hp
 have HE := Aside0.mk he
 have HN := Aside0.mk hne
 have HB := Aside0.mk hB
 have HBP := Aside0.mk hBp
 have HBE := Aside0.mk hBe
 clear hp he hne hB hBp hBe
 have hu30 := Try.underlying30
 have hu52 := Try.underlying52
 have hneq : ∀ (v : Value) (w : World), (binOp BinOp.neq 20 (.iface 52 v) .nilIface).run Try.prog w = .ok (.bool true) w := fun _ _ => by kernel_rfl
 have hta := ip_Parse.isFailed x
 refine callsD_of_wpS Try.func21 rfl fun c₀ cs hu => ?_
 simp only [Try.ntmps21, List.size_toArray, List.length_cons, List.length_nil, Nat.reduceAdd, Nat.reduceSub, Array.replicate_succ, Array.replicate_zero, List.push_toArray, List.append_toArray, List.nil_append, List.cons_append]
 apply wpS_seq
 apply wpS_region
 simp [wpOpsS, go_sem, recoverD, hu, Try.ntmps21, Exit.thenS]
 apply wpS_seq
 apply wpS_region
 simp [wpOpsS, go_sem, Exit.thenS]
 refine wpS_cond (t := true) (by simp [Act.eval, Array.replicate]) ?_
 simp only [if_true]
 refine wpS_of_wp ?_
 go_upto_region 5 with (fail)
 have hf : (w.alloc (.cells #[.int .i64 x] 52)).drew.cell? ⟨w.heap.size, 0, none⟩ = some (.int .i64 x) := by go_simp
 refine start_ (n := 5) (S := fun w' => w'.cell? ⟨w.heap.size, 0, none⟩ = some (.int .i64 x)) (ds := []) #[false, false, false, false, false] (by kernel_rfl) rfl rfl hf (fun hHeld => ?_)
 refine with_tabW ip_Parse.tab5 ip_Parse.bits5 (fun HT_ HW_ => ?_)
 have HNEW : w.heap.size ≠ gp := fun e => by have := blk_lt HP.out; omega
 have HNEW2 : w.heap.size ≠ ge := fun e => by have := blk_lt HE.out; omega
 have HP1 := Aside0.mk (blk_drew (blk_alloc HP.out (.cells #[.int .i64 x] 52)))
 have HE1 := Aside0.mk (blk_drew (blk_alloc HE.out (.cells #[.int .i64 x] 52)))
 have HB1 : Aside0 (Below B w0 (w.alloc (.cells #[.int .i64 x] 52)).drew) := ⟨below_drew (Below.alloc HB.out (by have := blk_lt HP.out; have := HBP.out; omega) _)⟩
 have HG1 := Aside0.mk HNEW
 have HG2 := Aside0.mk HNEW2
 clear HP HE HB HNEW HNEW2 hf
 generalize (w.alloc (.cells #[.int .i64 x] 52)).drew = wc at HP1 HE1 HB1 hHeld ⊢
 generalize w.heap.size = gf at HG1 HG2 hHeld HT_ HW_ ⊢
 refine pure_ (i := 0) (N := some 16) (v := ?_) (a' := ?_) #[true, false, false, false, false] rfl rfl (any_of HT_.out (by kernel_rfl)) (fun _ _ _ h => h) (Or.inl ⟨by rfl, ?_⟩) ?_ ?_
 rotate_left
 ·intro w'
  go_simp
  with_reducible rfl
 rotate_left
 ·simp only [Act.put, List.setIfInBounds_toArray, List.set_cons_zero, List.set_cons_succ, i64_w, i32_w]
  rfl
 refine pure_ (i := 1) (N := some 17) (v := ?_) (a' := ?_) #[true, true, false, false, false] rfl rfl (any_of HT_.out (by kernel_rfl)) (fun _ _ _ h => h) (Or.inl ⟨by rfl, ?_⟩) ?_ ?_
 rotate_left
 ·intro w'
  go_simp
  with_reducible rfl
 rotate_left
 ·simp only [Act.put, List.setIfInBounds_toArray, List.set_cons_zero, List.set_cons_succ, i64_w, i32_w]
  rfl
 refine take_ (i := 2) (N := some 18) (v := ?_) (a' := ?_) #[true, true, true, false, false] rfl rfl (take_ofW HT_.out HW_.out (by kernel_rfl)) (fun _ _ _ h => h) (Or.inl ⟨by rfl, ?_⟩) hHeld ?_ ?_
 rotate_left
 ·intro w' s0
  go_simp
  with_reducible rfl
 rotate_left
 ·simp only [Act.put, List.setIfInBounds_toArray, List.set_cons_zero, List.set_cons_succ, i64_w, i32_w]
  rfl
 have HN2 : Aside0 (ge ≠ gp) := ⟨fun e => HN.out e.symm⟩
 refine one_ (i := 3) (N := none) #[true, true, true, true, false] rfl rfl (one_of HT_.out (by kernel_rfl)) (by decide) (fun K hK => ?_)
 have hs0 : wc.cell? ⟨gp, 0, none⟩ = some (.int .u8 0) := (blk_cell HP1.out 0).trans rfl
 have hfs0 := blk_frozen HP1.out 0
 have hs1 : wc.cell? ⟨gp, 1, none⟩ = some (.int .u8 0) := (blk_cell HP1.out 1).trans rfl
 have hfs1 := blk_frozen HP1.out 1
 have hs2 : wc.cell? ⟨gp, 2, none⟩ = some (.int .u8 0) := (blk_cell HP1.out 2).trans rfl
 have hfs2 := blk_frozen HP1.out 2
 have hs3 : wc.cell? ⟨gp, 3, none⟩ = some (.int .u16 0) := (blk_cell HP1.out 3).trans rfl
 have hfs3 := blk_frozen HP1.out 3
 have hs4 : wc.cell? ⟨gp, 4, none⟩ = some (.int .u8 0) := (blk_cell HP1.out 4).trans rfl
 have hfs4 := blk_frozen HP1.out 4
 have hs5 : wc.cell? ⟨gp, 5, none⟩ = some (.int .u16 0) := (blk_cell HP1.out 5).trans rfl
 have hfs5 := blk_frozen HP1.out 5
 have hs6 : wc.cell? ⟨gp, 6, none⟩ = some (.int .u32 0) := (blk_cell HP1.out 6).trans rfl
 have hfs6 := blk_frozen HP1.out 6
 have hs7 : wc.cell? ⟨gp, 7, none⟩ = some (.int .u32 0) := (blk_cell HP1.out 7).trans rfl
 have hfs7 := blk_frozen HP1.out 7
 have hs8 : wc.cell? ⟨gp, 8, none⟩ = some (.slice none 0 0) := (blk_cell HP1.out 8).trans rfl
 have hfs8 := blk_frozen HP1.out 8
 have hs9 : wc.cell? ⟨gp, 9, none⟩ = some (.slice none 0 0) := (blk_cell HP1.out 9).trans rfl
 have hfs9 := blk_frozen HP1.out 9
 refine skip_ (w1 := ((((((((((wc.setCell ⟨gp, 0, none⟩ (.int .u8 0)).setCell ⟨gp, 1, none⟩ (.int .u8 0)).setCell ⟨gp, 2, none⟩ (.int .u8 0)).setCell ⟨gp, 3, none⟩ (.int .u16 0)).setCell ⟨gp, 4, none⟩ (.int .u8 0)).setCell ⟨gp, 5, none⟩ (.int .u16 0)).setCell ⟨gp, 6, none⟩ (.int .u32 0)).setCell ⟨gp, 7, none⟩ (.int .u32 0)).setCell ⟨gp, 8, none⟩ (.slice none 0 0)).setCell ⟨gp, 9, none⟩ (.slice none 0 0))) (by rfl) rfl ?_ ?_
 ·go_simp
 have f1 := Aside0.mk ((cell_far (W := (((((((((wc.setCell ⟨gp, 0, none⟩ (.int .u8 0)).setCell ⟨gp, 1, none⟩ (.int .u8 0)).setCell ⟨gp, 2, none⟩ (.int .u8 0)).setCell ⟨gp, 3, none⟩ (.int .u16 0)).setCell ⟨gp, 4, none⟩ (.int .u8 0)).setCell ⟨gp, 5, none⟩ (.int .u16 0)).setCell ⟨gp, 6, none⟩ (.int .u32 0)).setCell ⟨gp, 7, none⟩ (.int .u32 0)).setCell ⟨gp, 8, none⟩ (.slice none 0 0))) (p := ⟨gp, 9, none⟩) HG1.out (.slice none 0 0)).trans ((cell_far (W := ((((((((wc.setCell ⟨gp, 0, none⟩ (.int .u8 0)).setCell ⟨gp, 1, none⟩ (.int .u8 0)).setCell ⟨gp, 2, none⟩ (.int .u8 0)).setCell ⟨gp, 3, none⟩ (.int .u16 0)).setCell ⟨gp, 4, none⟩ (.int .u8 0)).setCell ⟨gp, 5, none⟩ (.int .u16 0)).setCell ⟨gp, 6, none⟩ (.int .u32 0)).setCell ⟨gp, 7, none⟩ (.int .u32 0))) (p := ⟨gp, 8, none⟩) HG1.out (.slice none 0 0)).trans ((cell_far (W := (((((((wc.setCell ⟨gp, 0, none⟩ (.int .u8 0)).setCell ⟨gp, 1, none⟩ (.int .u8 0)).setCell ⟨gp, 2, none⟩ (.int .u8 0)).setCell ⟨gp, 3, none⟩ (.int .u16 0)).setCell ⟨gp, 4, none⟩ (.int .u8 0)).setCell ⟨gp, 5, none⟩ (.int .u16 0)).setCell ⟨gp, 6, none⟩ (.int .u32 0))) (p := ⟨gp, 7, none⟩) HG1.out (.int .u32 0)).trans ((cell_far (W := ((((((wc.setCell ⟨gp, 0, none⟩ (.int .u8 0)).setCell ⟨gp, 1, none⟩ (.int .u8 0)).setCell ⟨gp, 2, none⟩ (.int .u8 0)).setCell ⟨gp, 3, none⟩ (.int .u16 0)).setCell ⟨gp, 4, none⟩ (.int .u8 0)).setCell ⟨gp, 5, none⟩ (.int .u16 0))) (p := ⟨gp, 6, none⟩) HG1.out (.int .u32 0)).trans ((cell_far (W := (((((wc.setCell ⟨gp, 0, none⟩ (.int .u8 0)).setCell ⟨gp, 1, none⟩ (.int .u8 0)).setCell ⟨gp, 2, none⟩ (.int .u8 0)).setCell ⟨gp, 3, none⟩ (.int .u16 0)).setCell ⟨gp, 4, none⟩ (.int .u8 0))) (p := ⟨gp, 5, none⟩) HG1.out (.int .u16 0)).trans ((cell_far (W := ((((wc.setCell ⟨gp, 0, none⟩ (.int .u8 0)).setCell ⟨gp, 1, none⟩ (.int .u8 0)).setCell ⟨gp, 2, none⟩ (.int .u8 0)).setCell ⟨gp, 3, none⟩ (.int .u16 0))) (p := ⟨gp, 4, none⟩) HG1.out (.int .u8 0)).trans ((cell_far (W := (((wc.setCell ⟨gp, 0, none⟩ (.int .u8 0)).setCell ⟨gp, 1, none⟩ (.int .u8 0)).setCell ⟨gp, 2, none⟩ (.int .u8 0))) (p := ⟨gp, 3, none⟩) HG1.out (.int .u16 0)).trans ((cell_far (W := ((wc.setCell ⟨gp, 0, none⟩ (.int .u8 0)).setCell ⟨gp, 1, none⟩ (.int .u8 0))) (p := ⟨gp, 2, none⟩) HG1.out (.int .u8 0)).trans ((cell_far (W := (wc.setCell ⟨gp, 0, none⟩ (.int .u8 0))) (p := ⟨gp, 1, none⟩) HG1.out (.int .u8 0)).trans ((cell_far (W := wc) (p := ⟨gp, 0, none⟩) HG1.out (.int .u8 0)).trans hHeld))))))))))
 have f2 := Aside0.mk (blk_put (blk_put (blk_put (blk_put (blk_put (blk_put (blk_put (blk_put (blk_put (blk_put HP1.out 0 (.int .u8 0) rfl) 1 (.int .u8 0) rfl) 2 (.int .u8 0) rfl) 3 (.int .u16 0) rfl) 4 (.int .u8 0) rfl) 5 (.int .u16 0) rfl) 6 (.int .u32 0) rfl) 7 (.int .u32 0) rfl) 8 (.slice none 0 0) rfl) 9 (.slice none 0 0) rfl)
 have f3 := Aside0.mk (blk_far (blk_far (blk_far (blk_far (blk_far (blk_far (blk_far (blk_far (blk_far (blk_far HE1.out (p := ⟨gp, 0, none⟩) HN2.out (.int .u8 0)) (p := ⟨gp, 1, none⟩) HN2.out (.int .u8 0)) (p := ⟨gp, 2, none⟩) HN2.out (.int .u8 0)) (p := ⟨gp, 3, none⟩) HN2.out (.int .u16 0)) (p := ⟨gp, 4, none⟩) HN2.out (.int .u8 0)) (p := ⟨gp, 5, none⟩) HN2.out (.int .u16 0)) (p := ⟨gp, 6, none⟩) HN2.out (.int .u32 0)) (p := ⟨gp, 7, none⟩) HN2.out (.int .u32 0)) (p := ⟨gp, 8, none⟩) HN2.out (.slice none 0 0)) (p := ⟨gp, 9, none⟩) HN2.out (.slice none 0 0))
 have f4 := Aside0.mk (Below.setCell (p := ⟨gp, 9, none⟩) (Below.setCell (p := ⟨gp, 8, none⟩) (Below.setCell (p := ⟨gp, 7, none⟩) (Below.setCell (p := ⟨gp, 6, none⟩) (Below.setCell (p := ⟨gp, 5, none⟩) (Below.setCell (p := ⟨gp, 4, none⟩) (Below.setCell (p := ⟨gp, 3, none⟩) (Below.setCell (p := ⟨gp, 2, none⟩) (Below.setCell (p := ⟨gp, 1, none⟩) (Below.setCell (p := ⟨gp, 0, none⟩) HB1.out HBP.out (.int .u8 0)) HBP.out (.int .u8 0)) HBP.out (.int .u8 0)) HBP.out (.int .u16 0)) HBP.out (.int .u8 0)) HBP.out (.int .u16 0)) HBP.out (.int .u32 0)) HBP.out (.int .u32 0)) HBP.out (.slice none 0 0)) HBP.out (.slice none 0 0))
 clear hs0 hs1 hs2 hs3 hs4 hs5 hs6 hs7 hs8 hs9 hfs0 hfs1 hfs2 hfs3 hfs4 hfs5 hfs6 hfs7 hfs8 hfs9
 generalize ((((((((((wc.setCell ⟨gp, 0, none⟩ (.int .u8 0)).setCell ⟨gp, 1, none⟩ (.int .u8 0)).setCell ⟨gp, 2, none⟩ (.int .u8 0)).setCell ⟨gp, 3, none⟩ (.int .u16 0)).setCell ⟨gp, 4, none⟩ (.int .u8 0)).setCell ⟨gp, 5, none⟩ (.int .u16 0)).setCell ⟨gp, 6, none⟩ (.int .u32 0)).setCell ⟨gp, 7, none⟩ (.int .u32 0)).setCell ⟨gp, 8, none⟩ (.slice none 0 0)).setCell ⟨gp, 9, none⟩ (.slice none 0 0)) = wd at f1 f2 f3 f4 ⊢
 clear HP1 HE1 HB1 hHeld
 refine hK.out _ _ f1.out (fun hHeld => ?_)
 clear hK K
 refine one_ (i := 4) (N := none) #[true, true, true, true, true] rfl rfl (one_of HT_.out (by kernel_rfl)) (by decide) (fun K hK => ?_)
 have he0 : wd.cell? ⟨ge, 0, none⟩ = some (.int .i64 0) := (blk_cell f3.out 0).trans rfl
 have hfe0 := blk_frozen f3.out 0
 refine skip_ (w1 := wd.setCell ⟨ge, 0, none⟩ (.int .i64 x)) (by rfl) rfl ?_ ?_
 ·go_simp
 clear he0 hfe0
 refine hK.out _ _ ((cell_far (W := wd) (p := ⟨ge, 0, none⟩) HG2.out (.int .i64 x)).trans hHeld) (fun hHeld => ?_)
 clear hK K
 refine done_ (done_of HT_.out (by kernel_rfl)) ?_
 have g1 : (wd.setCell ⟨ge, 0, none⟩ (.int .i64 x)).heap[gp]? = _ := blk_far f2.out (p := ⟨ge, 0, none⟩) HN.out (.int .i64 x)
 have g2 : (wd.setCell ⟨ge, 0, none⟩ (.int .i64 x)).heap[ge]? = _ := blk_put f3.out 0 (.int .i64 x) rfl
 have g3 := Below.setCell (p := ⟨ge, 0, none⟩) f4.out HBE.out (.int .i64 x)
 clear hneq hta hu30 hu52
 exact ⟨rfl, _, rfl, .tuple #[], by simp [results, Try.results21], rfl, rfl, g1, g2, g3⟩
set_option maxHeartbeats 400000 in
set_option maxRecDepth 100000 in
theorem ip_Parse.catch_idle (p q : Addr) (w : World) : CallsD Try.prog 21 #[.pointer (some p), .pointer (some q)] .returning w fun e u' w' => e = .returned (.tuple #[]) ∧ u' = .returning ∧ w' = w := by
 have hneq : ∀ (w : World), (binOp BinOp.neq 20 .nilIface .nilIface).run Try.prog w = .ok (.bool false) w := fun _ => by kernel_rfl
 refine callsD_of_wpS Try.func21 rfl fun c₀ cs hu => ?_
 simp only [Try.ntmps21, List.size_toArray, List.length_cons, List.length_nil, Nat.reduceAdd, Nat.reduceSub, Array.replicate_succ, Array.replicate_zero, List.push_toArray, List.append_toArray, List.nil_append, List.cons_append]
 apply wpS_seq
 apply wpS_region
 simp [wpOpsS, go_sem, recoverD, hu, Exit.thenS]
 apply wpS_seq
 apply wpS_region
 simp [wpOpsS, go_sem, Exit.thenS, hneq]
 refine wpS_cond (t := false) (by simp [Act.eval]) ?_
 simp only [Bool.false_eq_true, if_false]
 refine wpS_of_wp (wp_skip ?_)
 cases c₀
 simp_all [bodyPostS, results, Try.results21]
set_option maxHeartbeats 8000000 in
set_option maxRecDepth 100000 in
theorem ip_reader_packet.pan1 (A0 : Option Addr) (c0 : Nat) (l0 : List Int) (w : World) (hr0 : Kd.C (Kd.int .u8) w A0 l0.length l0) (hc0 : l0.length ≤ c0) (h : (l0.length : Int) < 20) :
  Calls Try.prog 22 #[.slice A0 l0.length c0] w fun e w' => e = .panicked [{ v := .iface 52 (.agg #[.int .i64 20]), recovered := false }] ∧ Below w.heap.size w w' := by
 have hu30 := Try.underlying30
 have HR0 := Aside0.mk hr0
 have HC0 := Aside0.mk hc0
 clear hr0 hc0
 have HB := Aside0.mk (Below.refl w.heap.size w)
 have hd_ : decide ((l0.length : Int) ≥ 20) = false := decide_eq_false (by omega)
 have HD := Aside0.mk hd_
 clear hd_ h
 go_enter Try.func22, Try.ntmps22
 go_wp2_with (first | ((with_reducible refine gate_dst (N := 2) rfl ?_); refine box_event ?hg (N := 2) ?hd (cs := #[.int .u8 0, .int .u8 0, .int .u8 0, .int .u16 0, .int .u8 0, .int .u16 0, .int .u32 0, .int .u32 0, .slice none 0 0, .slice none 0 0]) (t := 30) ?hr ?_; (case hd => rfl); (case hg => rfl); (case hr => first | (go_simp; done) | (go_simp; rfl)); intro gb119 hg w6 hbox hb; have n0_ := Aside0.mk (below_step (by repeat (first | (with_reducible first | exact HB.out | apply below_alloc | apply pw_below_drewN | apply below_drew1) | exact HB.out)) hb); have n1_ := Aside0.mk (hbox); have n2_ := Aside0.mk ((by rw [hg]; exact (below_size (by repeat (first | (with_reducible first | exact HB.out | apply below_alloc | apply pw_below_drewN | apply below_drew1) | exact HB.out))) : w.heap.size ≤ gb119)); have n3_ := Aside0.mk ((by rw [hg]; exact (below_size (by repeat (first | (with_reducible first | exact HB.out | apply below_alloc | apply pw_below_drewN | apply below_drew1) | exact HB.out))) : w.heap.size ≤ gb119)); clear HB; have HB := n0_; have BK119 := n1_; have GW119 := n2_; have GE119 := n3_; clear n0_ n1_ n2_ n3_; clear hb hbox hg) | ((with_reducible refine gate_callee (f := 30) rfl ?_); refine ip_Parse.goesP (some 9) rfl rfl Try.func30 (by kernel_rfl) rfl #[.bool (decide ((l0.length : Int) ≥ 20)), .int .i64 20] rfl (by (try simp only [List.map_toArray, List.map_cons, List.map_nil]); first | done | rfl | (simp only [List.length_drop, List.length_take]; rfl) | (go_simp; done) | (simp [Act.eval, IntKind.signed]; done) | (simp [Act.eval, IntKind.signed]; rfl)) ?_; (with_reducible refine (ip_must.panics (decide ((l0.length : Int) ≥ 20)) 20 _ HD.out).mono ?_); rintro e w' ⟨rfl, ⟨nd, rfl⟩⟩; refine ⟨_, rfl, ?_⟩; exact ⟨rfl, rfl, by repeat (first | (with_reducible first | exact HB.out | apply below_alloc | apply pw_below_drewN | apply below_drew1) | exact HB.out)⟩))
set_option maxHeartbeats 8000000 in
set_option maxRecDepth 100000 in
theorem ip_reader_packet.pan2 (t121 : Int) (A0 : Option Addr) (c0 : Nat) (l0 : List Int) (w : World) (hr0 : Kd.C (Kd.int .u8) w A0 l0.length l0) (hc0 : l0.length ≤ c0) (hlen : (l0.length : Int) ≥ 20) (h2 : ip_reader_two.f l0 2 = some t121) (hf : ¬ ((rd l0 0) / 16 = 4 ∧ (wrap64 (4 * (wrap64 (Go.bits .and .u8 (rd l0 0) 15)))) ≥ 20 ∧ (wrap64 (t121)) ≥ (wrap64 (4 * (wrap64 (Go.bits .and .u8 (rd l0 0) 15)))))) :
  Calls Try.prog 22 #[.slice A0 l0.length c0] w fun e w' => e = .panicked [{ v := .iface 52 (.agg #[.int .i64 21]), recovered := false }] ∧ Below w.heap.size w w' := by
 have hu30 := Try.underlying30
 have HR0 := Aside0.mk hr0
 have HC0 := Aside0.mk hc0
 clear hr0 hc0
 have HB := Aside0.mk (Below.refl w.heap.size w)
 have HF := Aside0.mk hf
 clear hf
 have A2 : Aside0 (ip_must.f (decide ((l0.length : Int) ≥ 20)) 20 = some ()) := ⟨by unfold ip_must.f; rw [decide_eq_true hlen, if_pos rfl]⟩
 have A4 := Aside0.mk h2
 have c3b0 : decide (0 < (l0.length : Int)) = true := decide_eq_true (by omega)
 have c3b1 : decide (0 < l0.length) = true := decide_eq_true (by omega)
 clear hlen h2
 go_enter Try.func22, Try.ntmps22
 try go_wp2_with (first | ((with_reducible refine gate_dst (N := 2) rfl ?_); refine box_event ?hg (N := 2) ?hd (cs := #[.int .u8 0, .int .u8 0, .int .u8 0, .int .u16 0, .int .u8 0, .int .u16 0, .int .u32 0, .int .u32 0, .slice none 0 0, .slice none 0 0]) (t := 30) ?hr ?_; (case hd => rfl); (case hg => rfl); (case hr => first | (go_simp; done) | (go_simp; rfl)); intro gb119 hg w6 hbox hb; have n0_ := Aside0.mk (below_step (by repeat (first | (with_reducible first | exact HB.out | apply below_alloc | apply pw_below_drewN | apply below_drew1) | exact HB.out)) hb); have n1_ := Aside0.mk (hbox); have n2_ := Aside0.mk ((by rw [hg]; exact (below_size (by repeat (first | (with_reducible first | exact HB.out | apply below_alloc | apply pw_below_drewN | apply below_drew1) | exact HB.out))) : w.heap.size ≤ gb119)); have n3_ := Aside0.mk ((by rw [hg]; exact (below_size (by repeat (first | (with_reducible first | exact HB.out | apply below_alloc | apply pw_below_drewN | apply below_drew1) | exact HB.out))) : w.heap.size ≤ gb119)); clear HB; have HB := n0_; have BK119 := n1_; have GW119 := n2_; have GE119 := n3_; clear n0_ n1_ n2_ n3_; clear hb hbox hg) | ((with_reducible refine gate_callee (f := 30) rfl ?_); refine goesL_ (some 9) rfl rfl Try.func30 (by kernel_rfl) rfl #[.bool (decide ((l0.length : Int) ≥ 20)), .int .i64 20] rfl (by (try simp only [List.map_toArray, List.map_cons, List.map_nil]); first | done | rfl | (simp only [List.length_drop, List.length_take]; rfl) | (go_simp; done) | (simp [Act.eval, IntKind.signed]; done) | (simp [Act.eval, IntKind.signed]; rfl)) ?_; (with_reducible refine (ip_must.calls (decide ((l0.length : Int) ≥ 20)) 20  _ A2.out).mono ?_); rintro e w' ⟨rfl, ⟨nd, rfl⟩⟩; refine ⟨_, rfl, ?_⟩))
 (try (rw [drewN_self w6]; generalize hq_ : World.drewN w6 _ = w6; have n0_ : Aside0 (w6.heap[gb119]? = some (.cells #[.int .u8 0, .int .u8 0, .int .u8 0, .int .u16 0, .int .u8 0, .int .u16 0, .int .u32 0, .int .u32 0, .slice none 0 0, .slice none 0 0] 30 (0, 0))) := ⟨by rw [← hq_]; exact (by (with_reducible repeat (first | refine blk_drewN ?_ _ | refine blk_drew ?_ | refine blk_alloc ?_ _)); exact BK119.out)⟩; have n1_ : Aside0 (Below w.heap.size w w6) := ⟨by rw [← hq_]; exact (by repeat (first | (with_reducible first | exact HB.out | apply below_alloc | apply pw_below_drewN | apply below_drew1 | refine below_set ?_ GE119.out) | exact HB.out))⟩; clear BK119 HB hq_; have BK119 := n0_; have HB := n1_; clear n0_ n1_))
 have n0_ := Aside0.mk (blk_drew BK119.out)
 have n1_ := Aside0.mk (below_drew1 HB.out)
 clear BK119
 clear HB
 have BK119 := n0_
 have HB := n1_
 clear n0_ n1_
 have p120 : 0 ≤ (0 : Int) := (by omega)
 have q120 : 0 < (l0.length : Int) := of_decide_eq_true (by first | (with_reducible assumption) | assumption)
 obtain ⟨ad120, e120, hx120_0⟩ := Kd.at_int HR0.out 0 p120 q120
 have hw120_0 := hx120_0
 (try rw [show ((0 : Int)).toNat = 0 from rfl] at hw120_0)
 (try rw [show 0 * 1 = 0 from rfl] at hw120_0)
 (try rw [Addr.add_zero'] at hw120_0)
 cases e120
 have qi120 : (0 < l0.length) = True := eq_true (by omega)
 (try rw [show ((0 : Int)).toNat = 0 from rfl] at hx120_0)
 (try rw [Addr.add_zero'] at hx120_0)
 replace hx120_0 := (HB.out.cell (World.block_lt_of_cell? w _ hx120_0)).trans hx120_0
 replace p120 := eq_true p120
 replace q120 := eq_true q120
 refine start_ (n := 11) (S := fun w' => w'.cell? ad120 = some (.int .u8 (rd l0 0))) (ds := []) #[false, false, false, false, false, false, false, false, false, false, false] (by kernel_rfl) rfl rfl (((HB.out.cell (World.block_lt_of_cell? w _ hw120_0)).trans hw120_0)) (fun hHeld => ?_); refine with_tabW ip_reader_packet.tab2 ip_reader_packet.bits2 (fun HT_ HW_ => ?_)
 generalize w6.drew = w7 at BK119 HB hx120_0 hHeld ⊢
 refine pure_ (i := 0) (N := some 10) (v := ?_) (a' := ?_) #[true, false, false, false, false, false, false, false, false, false, false] rfl rfl (any_of HT_.out (by kernel_rfl)) (fun _ _ _ h => h) (Or.inl ⟨by rfl, ?_⟩) ?_ ?_
 rotate_left
 ·intro w'
  go_simp
  with_reducible rfl
 rotate_left
 ·simp only [Act.put, List.setIfInBounds_toArray, List.set_cons_zero, List.set_cons_succ, i64_w, i32_w]
  rfl
 refine pure_ (i := 1) (N := some 11) (v := ?_) (a' := ?_) #[true, true, false, false, false, false, false, false, false, false, false] rfl rfl (any_of HT_.out (by kernel_rfl)) (fun _ _ _ h => h) (Or.inl ⟨by rfl, ?_⟩) ?_ ?_
 rotate_left
 ·intro w'
  go_simp
  with_reducible rfl
 rotate_left
 ·simp only [Act.put, List.setIfInBounds_toArray, List.set_cons_zero, List.set_cons_succ, i64_w, i32_w]
  rfl
 refine pure_ (i := 6) (N := some 16) (v := ?_) (a' := ?_) #[true, true, false, false, false, false, true, false, false, false, false] rfl rfl (any_of HT_.out (by kernel_rfl)) (fun _ _ _ h => h) (Or.inl ⟨by rfl, ?_⟩) ?_ ?_
 rotate_left
 ·intro w'
  go_simp
  with_reducible rfl
 rotate_left
 ·simp only [Act.put, List.setIfInBounds_toArray, List.set_cons_zero, List.set_cons_succ, i64_w, i32_w]
  rfl
 refine take_ (i := 2) (N := some 12) (v := ?_) (a' := ?_) #[true, true, true, false, false, false, true, false, false, false, false] rfl rfl (take_ofW HT_.out HW_.out (by kernel_rfl)) (fun _ _ _ h => h) (Or.inl ⟨by rfl, ?_⟩) hHeld ?_ ?_
 rotate_left
 ·intro w' s0
  go_simp
  with_reducible rfl
 rotate_left
 ·simp only [Act.put, List.setIfInBounds_toArray, List.set_cons_zero, List.set_cons_succ, i64_w, i32_w]
  rfl
 refine pure_ (i := 3) (N := some 13) (v := ?_) (a' := ?_) #[true, true, true, true, false, false, true, false, false, false, false] rfl rfl (any_of HT_.out (by kernel_rfl)) (fun _ _ _ h => h) (Or.inl ⟨by rfl, ?_⟩) ?_ ?_
 rotate_left
 ·intro w'
  go_simp
  with_reducible rfl
 rotate_left
 ·simp only [Act.put, List.setIfInBounds_toArray, List.set_cons_zero, List.set_cons_succ, i64_w, i32_w]
  rfl
 refine pure_ (i := 4) (N := some 14) (v := ?_) (a' := ?_) #[true, true, true, true, true, false, true, false, false, false, false] rfl rfl (any_of HT_.out (by kernel_rfl)) (fun _ _ _ h => h) (Or.inl ⟨by rfl, ?_⟩) ?_ ?_
 rotate_left
 ·intro w'
  go_simp
  with_reducible rfl
 rotate_left
 ·simp only [Act.put, List.setIfInBounds_toArray, List.set_cons_zero, List.set_cons_succ, i64_w, i32_w]
  rfl
 refine pure_ (i := 5) (N := some 15) (v := ?_) (a' := ?_) #[true, true, true, true, true, true, true, false, false, false, false] rfl rfl (any_of HT_.out (by kernel_rfl)) (fun _ _ _ h => h) (Or.inl ⟨by rfl, ?_⟩) ?_ ?_
 rotate_left
 ·intro w'
  go_simp
  with_reducible rfl
 rotate_left
 ·simp only [Act.put, List.setIfInBounds_toArray, List.set_cons_zero, List.set_cons_succ, i64_w, i32_w]
  rfl
 refine one_ (i := 7) (N := some 17) #[true, true, true, true, true, true, true, true, false, false, false] rfl rfl (one_of HT_.out (by kernel_rfl)) (by decide) (fun K hK => ?_)
 refine goes_ Try.func31 (by kernel_rfl) rfl #[.slice (some ad120) l0.length c0, .int .i64 2] (by rfl) rfl rfl (by (try simp only [List.map_toArray, List.map_cons, List.map_nil]); first | done | rfl | (simp only [List.length_drop, List.length_take]; rfl) | (go_simp; done) | (simp [Act.eval, IntKind.signed]; done) | (simp [Act.eval, IntKind.signed]; rfl)) ?_
 with_reducible refine (ip_reader_two.calls _ _ l0 2 t121 _ ?side1 ?side2 A4.out).mono ?_
 (case side1 => repeat (first | exact (Kd.C_below HR0.out HB.out) | (with_reducible refine Kd.C_alloc ?_ _) | (with_reducible refine Kd.C_drewN ?_ _) | (with_reducible refine Kd.C_drew ?_)))
 (case side2 => exact HC0.out)
 rintro e w' ⟨rfl, ⟨nd, rfl⟩⟩
 refine ⟨_, rfl, ?_⟩
 refine hK.out _ _ (((HB.out.cell (World.block_lt_of_cell? w _ hw120_0)).trans hw120_0)) (fun hHeld => ?_)
 clear hK K
 refine norm_ (a' := ?_) ?_ ?_
 rotate_left
 ·show Act.put _ (some 17) _ = _
  simp only [Act.put, List.setIfInBounds_toArray, List.set_cons_zero, List.set_cons_succ, i64_w, i32_w]
  rfl
 refine pure_ (i := 8) (N := some 18) (v := ?_) (a' := ?_) #[true, true, true, true, true, true, true, true, true, false, false] rfl rfl (any_of HT_.out (by kernel_rfl)) (fun _ _ _ h => h) (Or.inl ⟨by rfl, ?_⟩) ?_ ?_
 rotate_left
 ·intro w'
  go_simp
  with_reducible rfl
 rotate_left
 ·simp only [Act.put, List.setIfInBounds_toArray, List.set_cons_zero, List.set_cons_succ, i64_w, i32_w]
  rfl
 refine pure_ (i := 9) (N := some 3) (v := ?_) (a' := ?_) #[true, true, true, true, true, true, true, true, true, true, false] rfl rfl (any_of HT_.out (by kernel_rfl)) (fun _ _ _ h => h) (Or.inl ⟨by rfl, ?_⟩) ?_ ?_
 rotate_left
 ·intro w'
  go_simp
  with_reducible rfl
 rotate_left
 ·simp only [Act.put, List.setIfInBounds_toArray, List.set_cons_zero, List.set_cons_succ, i64_w, i32_w]
  rfl
 refine pure_ (i := 10) (N := some 4) (v := ?_) (a' := ?_) #[true, true, true, true, true, true, true, true, true, true, true] rfl rfl (any_of HT_.out (by kernel_rfl)) (fun _ _ _ h => h) (Or.inl ⟨by rfl, ?_⟩) ?_ ?_
 rotate_left
 ·intro w'
  go_simp
  with_reducible rfl
 rotate_left
 ·simp only [Act.put, List.setIfInBounds_toArray, List.set_cons_zero, List.set_cons_succ, i64_w, i32_w]
  rfl
 refine done_ (done_of HT_.out (by kernel_rfl)) ?_
 go_upto_region 3 with (fail)
 by_cases c8 : ((rd l0 0) / 16) = 4
 ·have c8b0 : (((rd l0 0) / 16) == 4) = true := beq_iff_eq.mpr c8
  have c8b1 : (((rd l0 0) / 16) != 4) = false := bne_eq_false_iff_eq.mpr c8
  (first | rw [c8b0] | (simp only [i64_w, i32_w]; rw [c8b0]) | skip)
  by_cases c9 : (wrap64 (4 * (wrap64 (Go.bits .and .u8 (rd l0 0) 15)))) ≥ 20
  ·have c9b0 : decide (20 ≤ (wrap64 (4 * (wrap64 (Go.bits .and .u8 (rd l0 0) 15))))) = true := decide_eq_true c9
   have hd_ : decide ((wrap64 (t121)) ≥ (wrap64 (4 * (wrap64 (Go.bits .and .u8 (rd l0 0) 15))))) = false := decide_eq_false (fun hx => HF.out ⟨c8, c9, hx⟩)
   have HD := Aside0.mk hd_
   clear hd_ c8 c9
   have p122 : 0 ≤ (0 : Int) := (by omega)
   have q122 : 0 < (l0.length : Int) := of_decide_eq_true (by first | (with_reducible assumption) | assumption)
   obtain ⟨ad122, e122, hx122_0⟩ := Kd.at_int HR0.out 0 p122 q122
   obtain rfl : ad120 = ad122 := (by injection e122)
   have qi122 : (0 < l0.length) = True := eq_true (by omega)
   (try rw [show ((0 : Int)).toNat = 0 from rfl] at hx122_0)
   (try rw [Addr.add_zero'] at hx122_0)
   replace hx122_0 := (HB.out.cell (World.block_lt_of_cell? w _ hx122_0)).trans hx122_0
   replace p122 := eq_true p122
   replace q122 := eq_true q122
   go_wp2_with (first | ((with_reducible refine gate_callee (f := 30) rfl ?_); refine ip_Parse.goesP (some 33) rfl rfl Try.func30 (by kernel_rfl) rfl #[.bool (decide ((wrap64 (t121)) ≥ (wrap64 (4 * (wrap64 (Go.bits .and .u8 (rd l0 0) 15)))))), .int .i64 21] rfl (by (try simp only [List.map_toArray, List.map_cons, List.map_nil]); first | done | rfl | (simp only [List.length_drop, List.length_take]; rfl) | (go_simp; done) | (simp [Act.eval, IntKind.signed]; done) | (simp [Act.eval, IntKind.signed]; rfl)) ?_; (with_reducible refine (ip_must.panics (decide ((wrap64 (t121)) ≥ (wrap64 (4 * (wrap64 (Go.bits .and .u8 (rd l0 0) 15)))))) 21 _ HD.out).mono ?_); rintro e w' ⟨rfl, ⟨nd, rfl⟩⟩; refine ⟨_, rfl, ?_⟩; exact ⟨rfl, rfl, by repeat (first | (with_reducible first | exact HB.out | apply below_alloc | apply pw_below_drewN | apply below_drew1) | exact HB.out)⟩))
  ·have c9b0 : decide (20 ≤ (wrap64 (4 * (wrap64 (Go.bits .and .u8 (rd l0 0) 15))))) = false := decide_eq_false c9
   clear c8 c9
   have p122 : 0 ≤ (0 : Int) := (by omega)
   have q122 : 0 < (l0.length : Int) := of_decide_eq_true (by first | (with_reducible assumption) | assumption)
   obtain ⟨ad122, e122, hx122_0⟩ := Kd.at_int HR0.out 0 p122 q122
   obtain rfl : ad120 = ad122 := (by injection e122)
   have qi122 : (0 < l0.length) = True := eq_true (by omega)
   (try rw [show ((0 : Int)).toNat = 0 from rfl] at hx122_0)
   (try rw [Addr.add_zero'] at hx122_0)
   replace hx122_0 := (HB.out.cell (World.block_lt_of_cell? w _ hx122_0)).trans hx122_0
   replace p122 := eq_true p122
   replace q122 := eq_true q122
   go_wp2_with (first | ((with_reducible refine gate_callee (f := 30) rfl ?_); refine ip_Parse.goesP (some 33) rfl rfl Try.func30 (by kernel_rfl) rfl #[.bool false, .int .i64 21] rfl (by (try simp only [List.map_toArray, List.map_cons, List.map_nil]); first | done | rfl | (simp only [List.length_drop, List.length_take]; rfl) | (go_simp; done) | (simp [Act.eval, IntKind.signed]; done) | (simp [Act.eval, IntKind.signed]; rfl)) ?_; (with_reducible refine (ip_must.panics false 21 _ rfl).mono ?_); rintro e w' ⟨rfl, ⟨nd, rfl⟩⟩; refine ⟨_, rfl, ?_⟩; exact ⟨rfl, rfl, by repeat (first | (with_reducible first | exact HB.out | apply below_alloc | apply pw_below_drewN | apply below_drew1) | exact HB.out)⟩))
 ·have c8b0 : (((rd l0 0) / 16) == 4) = false := beq_eq_false_iff_ne.mpr c8
  have c8b1 : (((rd l0 0) / 16) != 4) = true := bne_iff_ne.mpr c8
  (first | rw [c8b0] | (simp only [i64_w, i32_w]; rw [c8b0]) | skip)
  clear c8
  have p122 : 0 ≤ (0 : Int) := (by omega)
  have q122 : 0 < (l0.length : Int) := of_decide_eq_true (by first | (with_reducible assumption) | assumption)
  obtain ⟨ad122, e122, hx122_0⟩ := Kd.at_int HR0.out 0 p122 q122
  obtain rfl : ad120 = ad122 := (by injection e122)
  have qi122 : (0 < l0.length) = True := eq_true (by omega)
  (try rw [show ((0 : Int)).toNat = 0 from rfl] at hx122_0)
  (try rw [Addr.add_zero'] at hx122_0)
  replace hx122_0 := (HB.out.cell (World.block_lt_of_cell? w _ hx122_0)).trans hx122_0
  replace p122 := eq_true p122
  replace q122 := eq_true q122
  go_wp2_with (first | ((with_reducible refine gate_callee (f := 30) rfl ?_); refine ip_Parse.goesP (some 33) rfl rfl Try.func30 (by kernel_rfl) rfl #[.bool false, .int .i64 21] rfl (by (try simp only [List.map_toArray, List.map_cons, List.map_nil]); first | done | rfl | (simp only [List.length_drop, List.length_take]; rfl) | (go_simp; done) | (simp [Act.eval, IntKind.signed]; done) | (simp [Act.eval, IntKind.signed]; rfl)) ?_; (with_reducible refine (ip_must.panics false 21 _ rfl).mono ?_); rintro e w' ⟨rfl, ⟨nd, rfl⟩⟩; refine ⟨_, rfl, ?_⟩; exact ⟨rfl, rfl, by repeat (first | (with_reducible first | exact HB.out | apply below_alloc | apply pw_below_drewN | apply below_drew1) | exact HB.out)⟩))
set_option maxHeartbeats 8000000 in
set_option maxRecDepth 100000 in
theorem ip_reader_packet.pan3 (t121 : Int) (A0 : Option Addr) (c0 : Nat) (l0 : List Int) (w : World) (hr0 : Kd.C (Kd.int .u8) w A0 l0.length l0) (hc0 : l0.length ≤ c0) (hlen : (l0.length : Int) ≥ 20) (h2 : ip_reader_two.f l0 2 = some t121) (hf : (rd l0 0) / 16 = 4 ∧ (wrap64 (4 * (wrap64 (Go.bits .and .u8 (rd l0 0) 15)))) ≥ 20 ∧ (wrap64 (t121)) ≥ (wrap64 (4 * (wrap64 (Go.bits .and .u8 (rd l0 0) 15))))) (hs : (l0.length : Int) < (wrap64 (t121))) :
  Calls Try.prog 22 #[.slice A0 l0.length c0] w fun e w' => e = .panicked [{ v := .iface 52 (.agg #[.int .i64 20]), recovered := false }] ∧ Below w.heap.size w w' := by
 have hu30 := Try.underlying30
 have HR0 := Aside0.mk hr0
 have HC0 := Aside0.mk hc0
 clear hr0 hc0
 have HB := Aside0.mk (Below.refl w.heap.size w)
 have hd_ : decide ((l0.length : Int) ≥ (wrap64 (t121))) = false := decide_eq_false (by omega)
 have HD := Aside0.mk hd_
 clear hd_ hs
 have A10 : Aside0 (ip_must.f (decide ((wrap64 (t121)) ≥ (wrap64 (4 * (wrap64 (Go.bits .and .u8 (rd l0 0) 15)))))) 21 = some ()) := ⟨by unfold ip_must.f; rw [decide_eq_true hf.2.2, if_pos rfl]⟩
 have c8b0 : (((rd l0 0) / 16) == 4) = true := beq_iff_eq.mpr hf.1
 have c8b1 : (((rd l0 0) / 16) != 4) = false := bne_eq_false_iff_eq.mpr hf.1
 have c9b0 : decide (20 ≤ (wrap64 (4 * (wrap64 (Go.bits .and .u8 (rd l0 0) 15))))) = true := decide_eq_true hf.2.1
 clear hf
 have A2 : Aside0 (ip_must.f (decide ((l0.length : Int) ≥ 20)) 20 = some ()) := ⟨by unfold ip_must.f; rw [decide_eq_true hlen, if_pos rfl]⟩
 have A4 := Aside0.mk h2
 have c3b0 : decide (0 < (l0.length : Int)) = true := decide_eq_true (by omega)
 have c3b1 : decide (0 < l0.length) = true := decide_eq_true (by omega)
 clear hlen h2
 go_enter Try.func22, Try.ntmps22
 try go_wp2_with (first | ((with_reducible refine gate_dst (N := 2) rfl ?_); refine box_event ?hg (N := 2) ?hd (cs := #[.int .u8 0, .int .u8 0, .int .u8 0, .int .u16 0, .int .u8 0, .int .u16 0, .int .u32 0, .int .u32 0, .slice none 0 0, .slice none 0 0]) (t := 30) ?hr ?_; (case hd => rfl); (case hg => rfl); (case hr => first | (go_simp; done) | (go_simp; rfl)); intro gb119 hg w6 hbox hb; have n0_ := Aside0.mk (below_step (by repeat (first | (with_reducible first | exact HB.out | apply below_alloc | apply pw_below_drewN | apply below_drew1) | exact HB.out)) hb); have n1_ := Aside0.mk (hbox); have n2_ := Aside0.mk ((by rw [hg]; exact (below_size (by repeat (first | (with_reducible first | exact HB.out | apply below_alloc | apply pw_below_drewN | apply below_drew1) | exact HB.out))) : w.heap.size ≤ gb119)); have n3_ := Aside0.mk ((by rw [hg]; exact (below_size (by repeat (first | (with_reducible first | exact HB.out | apply below_alloc | apply pw_below_drewN | apply below_drew1) | exact HB.out))) : w.heap.size ≤ gb119)); clear HB; have HB := n0_; have BK119 := n1_; have GW119 := n2_; have GE119 := n3_; clear n0_ n1_ n2_ n3_; clear hb hbox hg) | ((with_reducible refine gate_callee (f := 30) rfl ?_); refine goesL_ (some 9) rfl rfl Try.func30 (by kernel_rfl) rfl #[.bool (decide ((l0.length : Int) ≥ 20)), .int .i64 20] rfl (by (try simp only [List.map_toArray, List.map_cons, List.map_nil]); first | done | rfl | (simp only [List.length_drop, List.length_take]; rfl) | (go_simp; done) | (simp [Act.eval, IntKind.signed]; done) | (simp [Act.eval, IntKind.signed]; rfl)) ?_; (with_reducible refine (ip_must.calls (decide ((l0.length : Int) ≥ 20)) 20  _ A2.out).mono ?_); rintro e w' ⟨rfl, ⟨nd, rfl⟩⟩; refine ⟨_, rfl, ?_⟩))
 (try (rw [drewN_self w6]; generalize hq_ : World.drewN w6 _ = w6; have n0_ : Aside0 (w6.heap[gb119]? = some (.cells #[.int .u8 0, .int .u8 0, .int .u8 0, .int .u16 0, .int .u8 0, .int .u16 0, .int .u32 0, .int .u32 0, .slice none 0 0, .slice none 0 0] 30 (0, 0))) := ⟨by rw [← hq_]; exact (by (with_reducible repeat (first | refine blk_drewN ?_ _ | refine blk_drew ?_ | refine blk_alloc ?_ _)); exact BK119.out)⟩; have n1_ : Aside0 (Below w.heap.size w w6) := ⟨by rw [← hq_]; exact (by repeat (first | (with_reducible first | exact HB.out | apply below_alloc | apply pw_below_drewN | apply below_drew1 | refine below_set ?_ GE119.out) | exact HB.out))⟩; clear BK119 HB hq_; have BK119 := n0_; have HB := n1_; clear n0_ n1_))
 have n0_ := Aside0.mk (blk_drew BK119.out)
 have n1_ := Aside0.mk (below_drew1 HB.out)
 clear BK119
 clear HB
 have BK119 := n0_
 have HB := n1_
 clear n0_ n1_
 have p120 : 0 ≤ (0 : Int) := (by omega)
 have q120 : 0 < (l0.length : Int) := of_decide_eq_true (by first | (with_reducible assumption) | assumption)
 obtain ⟨ad120, e120, hx120_0⟩ := Kd.at_int HR0.out 0 p120 q120
 have hw120_0 := hx120_0
 (try rw [show ((0 : Int)).toNat = 0 from rfl] at hw120_0)
 (try rw [show 0 * 1 = 0 from rfl] at hw120_0)
 (try rw [Addr.add_zero'] at hw120_0)
 cases e120
 have qi120 : (0 < l0.length) = True := eq_true (by omega)
 (try rw [show ((0 : Int)).toNat = 0 from rfl] at hx120_0)
 (try rw [Addr.add_zero'] at hx120_0)
 replace hx120_0 := (HB.out.cell (World.block_lt_of_cell? w _ hx120_0)).trans hx120_0
 replace p120 := eq_true p120
 replace q120 := eq_true q120
 refine start_ (n := 11) (S := fun w' => w'.cell? ad120 = some (.int .u8 (rd l0 0))) (ds := []) #[false, false, false, false, false, false, false, false, false, false, false] (by kernel_rfl) rfl rfl (((HB.out.cell (World.block_lt_of_cell? w _ hw120_0)).trans hw120_0)) (fun hHeld => ?_); refine with_tabW ip_reader_packet.tab2 ip_reader_packet.bits2 (fun HT_ HW_ => ?_)
 generalize w6.drew = w7 at BK119 HB hx120_0 hHeld ⊢
 refine pure_ (i := 0) (N := some 10) (v := ?_) (a' := ?_) #[true, false, false, false, false, false, false, false, false, false, false] rfl rfl (any_of HT_.out (by kernel_rfl)) (fun _ _ _ h => h) (Or.inl ⟨by rfl, ?_⟩) ?_ ?_
 rotate_left
 ·intro w'
  go_simp
  with_reducible rfl
 rotate_left
 ·simp only [Act.put, List.setIfInBounds_toArray, List.set_cons_zero, List.set_cons_succ, i64_w, i32_w]
  rfl
 refine pure_ (i := 1) (N := some 11) (v := ?_) (a' := ?_) #[true, true, false, false, false, false, false, false, false, false, false] rfl rfl (any_of HT_.out (by kernel_rfl)) (fun _ _ _ h => h) (Or.inl ⟨by rfl, ?_⟩) ?_ ?_
 rotate_left
 ·intro w'
  go_simp
  with_reducible rfl
 rotate_left
 ·simp only [Act.put, List.setIfInBounds_toArray, List.set_cons_zero, List.set_cons_succ, i64_w, i32_w]
  rfl
 refine pure_ (i := 6) (N := some 16) (v := ?_) (a' := ?_) #[true, true, false, false, false, false, true, false, false, false, false] rfl rfl (any_of HT_.out (by kernel_rfl)) (fun _ _ _ h => h) (Or.inl ⟨by rfl, ?_⟩) ?_ ?_
 rotate_left
 ·intro w'
  go_simp
  with_reducible rfl
 rotate_left
 ·simp only [Act.put, List.setIfInBounds_toArray, List.set_cons_zero, List.set_cons_succ, i64_w, i32_w]
  rfl
 refine take_ (i := 2) (N := some 12) (v := ?_) (a' := ?_) #[true, true, true, false, false, false, true, false, false, false, false] rfl rfl (take_ofW HT_.out HW_.out (by kernel_rfl)) (fun _ _ _ h => h) (Or.inl ⟨by rfl, ?_⟩) hHeld ?_ ?_
 rotate_left
 ·intro w' s0
  go_simp
  with_reducible rfl
 rotate_left
 ·simp only [Act.put, List.setIfInBounds_toArray, List.set_cons_zero, List.set_cons_succ, i64_w, i32_w]
  rfl
 refine pure_ (i := 3) (N := some 13) (v := ?_) (a' := ?_) #[true, true, true, true, false, false, true, false, false, false, false] rfl rfl (any_of HT_.out (by kernel_rfl)) (fun _ _ _ h => h) (Or.inl ⟨by rfl, ?_⟩) ?_ ?_
 rotate_left
 ·intro w'
  go_simp
  with_reducible rfl
 rotate_left
 ·simp only [Act.put, List.setIfInBounds_toArray, List.set_cons_zero, List.set_cons_succ, i64_w, i32_w]
  rfl
 refine pure_ (i := 4) (N := some 14) (v := ?_) (a' := ?_) #[true, true, true, true, true, false, true, false, false, false, false] rfl rfl (any_of HT_.out (by kernel_rfl)) (fun _ _ _ h => h) (Or.inl ⟨by rfl, ?_⟩) ?_ ?_
 rotate_left
 ·intro w'
  go_simp
  with_reducible rfl
 rotate_left
 ·simp only [Act.put, List.setIfInBounds_toArray, List.set_cons_zero, List.set_cons_succ, i64_w, i32_w]
  rfl
 refine pure_ (i := 5) (N := some 15) (v := ?_) (a' := ?_) #[true, true, true, true, true, true, true, false, false, false, false] rfl rfl (any_of HT_.out (by kernel_rfl)) (fun _ _ _ h => h) (Or.inl ⟨by rfl, ?_⟩) ?_ ?_
 rotate_left
 ·intro w'
  go_simp
  with_reducible rfl
 rotate_left
 ·simp only [Act.put, List.setIfInBounds_toArray, List.set_cons_zero, List.set_cons_succ, i64_w, i32_w]
  rfl
 refine one_ (i := 7) (N := some 17) #[true, true, true, true, true, true, true, true, false, false, false] rfl rfl (one_of HT_.out (by kernel_rfl)) (by decide) (fun K hK => ?_)
 refine goes_ Try.func31 (by kernel_rfl) rfl #[.slice (some ad120) l0.length c0, .int .i64 2] (by rfl) rfl rfl (by (try simp only [List.map_toArray, List.map_cons, List.map_nil]); first | done | rfl | (simp only [List.length_drop, List.length_take]; rfl) | (go_simp; done) | (simp [Act.eval, IntKind.signed]; done) | (simp [Act.eval, IntKind.signed]; rfl)) ?_
 with_reducible refine (ip_reader_two.calls _ _ l0 2 t121 _ ?side1 ?side2 A4.out).mono ?_
 (case side1 => repeat (first | exact (Kd.C_below HR0.out HB.out) | (with_reducible refine Kd.C_alloc ?_ _) | (with_reducible refine Kd.C_drewN ?_ _) | (with_reducible refine Kd.C_drew ?_)))
 (case side2 => exact HC0.out)
 rintro e w' ⟨rfl, ⟨nd, rfl⟩⟩
 refine ⟨_, rfl, ?_⟩
 refine hK.out _ _ (((HB.out.cell (World.block_lt_of_cell? w _ hw120_0)).trans hw120_0)) (fun hHeld => ?_)
 clear hK K
 refine norm_ (a' := ?_) ?_ ?_
 rotate_left
 ·show Act.put _ (some 17) _ = _
  simp only [Act.put, List.setIfInBounds_toArray, List.set_cons_zero, List.set_cons_succ, i64_w, i32_w]
  rfl
 refine pure_ (i := 8) (N := some 18) (v := ?_) (a' := ?_) #[true, true, true, true, true, true, true, true, true, false, false] rfl rfl (any_of HT_.out (by kernel_rfl)) (fun _ _ _ h => h) (Or.inl ⟨by rfl, ?_⟩) ?_ ?_
 rotate_left
 ·intro w'
  go_simp
  with_reducible rfl
 rotate_left
 ·simp only [Act.put, List.setIfInBounds_toArray, List.set_cons_zero, List.set_cons_succ, i64_w, i32_w]
  rfl
 refine pure_ (i := 9) (N := some 3) (v := ?_) (a' := ?_) #[true, true, true, true, true, true, true, true, true, true, false] rfl rfl (any_of HT_.out (by kernel_rfl)) (fun _ _ _ h => h) (Or.inl ⟨by rfl, ?_⟩) ?_ ?_
 rotate_left
 ·intro w'
  go_simp
  with_reducible rfl
 rotate_left
 ·simp only [Act.put, List.setIfInBounds_toArray, List.set_cons_zero, List.set_cons_succ, i64_w, i32_w]
  rfl
 refine pure_ (i := 10) (N := some 4) (v := ?_) (a' := ?_) #[true, true, true, true, true, true, true, true, true, true, true] rfl rfl (any_of HT_.out (by kernel_rfl)) (fun _ _ _ h => h) (Or.inl ⟨by rfl, ?_⟩) ?_ ?_
 rotate_left
 ·intro w'
  go_simp
  with_reducible rfl
 rotate_left
 ·simp only [Act.put, List.setIfInBounds_toArray, List.set_cons_zero, List.set_cons_succ, i64_w, i32_w]
  rfl
 refine done_ (done_of HT_.out (by kernel_rfl)) ?_
 go_upto_region 3 with (fail)
 (first | rw [c8b0] | (simp only [i64_w, i32_w]; rw [c8b0]) | skip)
 have p122 : 0 ≤ (0 : Int) := (by omega)
 have q122 : 0 < (l0.length : Int) := of_decide_eq_true (by first | (with_reducible assumption) | assumption)
 obtain ⟨ad122, e122, hx122_0⟩ := Kd.at_int HR0.out 0 p122 q122
 obtain rfl : ad120 = ad122 := (by injection e122)
 have qi122 : (0 < l0.length) = True := eq_true (by omega)
 (try rw [show ((0 : Int)).toNat = 0 from rfl] at hx122_0)
 (try rw [Addr.add_zero'] at hx122_0)
 replace hx122_0 := (HB.out.cell (World.block_lt_of_cell? w _ hx122_0)).trans hx122_0
 replace p122 := eq_true p122
 replace q122 := eq_true q122
 go_wp2_with (first | ((with_reducible refine gate_callee (f := 30) rfl ?_); refine goesL_ (some 33) rfl rfl Try.func30 (by kernel_rfl) rfl #[.bool (decide ((wrap64 (t121)) ≥ (wrap64 (4 * (wrap64 (Go.bits .and .u8 (rd l0 0) 15)))))), .int .i64 21] rfl (by (try simp only [List.map_toArray, List.map_cons, List.map_nil]); first | done | rfl | (simp only [List.length_drop, List.length_take]; rfl) | (go_simp; done) | (simp [Act.eval, IntKind.signed]; done) | (simp [Act.eval, IntKind.signed]; rfl)) ?_; (with_reducible refine (ip_must.calls (decide ((wrap64 (t121)) ≥ (wrap64 (4 * (wrap64 (Go.bits .and .u8 (rd l0 0) 15)))))) 21  _ A10.out).mono ?_); rintro e w' ⟨rfl, ⟨nd, rfl⟩⟩; refine ⟨_, rfl, ?_⟩) | ((with_reducible refine gate_callee (f := 30) rfl ?_); refine ip_Parse.goesP (some 38) rfl rfl Try.func30 (by kernel_rfl) rfl #[.bool (decide ((l0.length : Int) ≥ (wrap64 (t121)))), .int .i64 20] rfl (by (try simp only [List.map_toArray, List.map_cons, List.map_nil]); first | done | rfl | (simp only [List.length_drop, List.length_take]; rfl) | (go_simp; done) | (simp [Act.eval, IntKind.signed]; done) | (simp [Act.eval, IntKind.signed]; rfl)) ?_; (with_reducible refine (ip_must.panics (decide ((l0.length : Int) ≥ (wrap64 (t121)))) 20 _ HD.out).mono ?_); rintro e w' ⟨rfl, ⟨nd, rfl⟩⟩; refine ⟨_, rfl, ?_⟩; exact ⟨rfl, rfl, by repeat (first | (with_reducible first | exact HB.out | apply below_alloc | apply pw_below_drewN | apply below_drew1) | exact HB.out)⟩))
set_option maxHeartbeats 8000000 in
set_option maxRecDepth 100000 in
theorem ip_reader_packet.pan4 (k : Nat) (t121 t124 t125 : Int) (A0 : Option Addr) (c0 : Nat) (l0 : List Int) (w : World) (hr0 : Kd.C (Kd.int .u8) w A0 l0.length l0) (hc0 : l0.length ≤ c0) (hlen : (l0.length : Int) ≥ 20) (h2 : ip_reader_two.f l0 2 = some t121) (hf : (rd l0 0) / 16 = 4 ∧ (wrap64 (4 * (wrap64 (Go.bits .and .u8 (rd l0 0) 15)))) ≥ 20 ∧ (wrap64 (t121)) ≥ (wrap64 (4 * (wrap64 (Go.bits .and .u8 (rd l0 0) 15))))) (hs : (l0.length : Int) ≥ (wrap64 (t121))) (ha : sum_Add.f k 0 (l0.take ((wrap64 (4 * (wrap64 (Go.bits .and .u8 (rd l0 0) 15)))) : Int).toNat) = some t124) (hb_ : sum_Fold.f k t124 = some t125) (hx : t125 ≠ 65535) :
  Calls Try.prog 22 #[.slice A0 l0.length c0] w fun e w' => e = .panicked [{ v := .iface 52 (.agg #[.int .i64 22]), recovered := false }] ∧ Below w.heap.size w w' := by
 have hu30 := Try.underlying30
 have HR0 := Aside0.mk hr0
 have HC0 := Aside0.mk hc0
 clear hr0 hc0
 have HB := Aside0.mk (Below.refl w.heap.size w)
 have HD : Aside0 ((t125 == 65535) = false) := ⟨beq_eq_false_iff_ne.mpr hx⟩
 clear hx
 have A13 : Aside0 (ip_must.f (decide ((l0.length : Int) ≥ (wrap64 (t121)))) 20 = some ()) := ⟨by unfold ip_must.f; rw [decide_eq_true hs, if_pos rfl]⟩
 have A17 := Aside0.mk ha
 have A18 := Aside0.mk hb_
 have c15b1 : decide (0 ≤ (wrap64 (4 * (wrap64 (Go.bits .and .u8 (rd l0 0) 15))))) = true := decide_eq_true (by omega)
 have c16b1 : decide ((wrap64 (4 * (wrap64 (Go.bits .and .u8 (rd l0 0) 15)))) ≤ (l0.length : Int)) = true := decide_eq_true (by omega)
 have c15b0 := eq_true (of_decide_eq_true c15b1)
 have c16b0 := eq_true (of_decide_eq_true c16b1)
 have A10 : Aside0 (ip_must.f (decide ((wrap64 (t121)) ≥ (wrap64 (4 * (wrap64 (Go.bits .and .u8 (rd l0 0) 15)))))) 21 = some ()) := ⟨by unfold ip_must.f; rw [decide_eq_true hf.2.2, if_pos rfl]⟩
 have c8b0 : (((rd l0 0) / 16) == 4) = true := beq_iff_eq.mpr hf.1
 have c8b1 : (((rd l0 0) / 16) != 4) = false := bne_eq_false_iff_eq.mpr hf.1
 have c9b0 : decide (20 ≤ (wrap64 (4 * (wrap64 (Go.bits .and .u8 (rd l0 0) 15))))) = true := decide_eq_true hf.2.1
 clear hf hs ha hb_
 have A2 : Aside0 (ip_must.f (decide ((l0.length : Int) ≥ 20)) 20 = some ()) := ⟨by unfold ip_must.f; rw [decide_eq_true hlen, if_pos rfl]⟩
 have A4 := Aside0.mk h2
 have c3b0 : decide (0 < (l0.length : Int)) = true := decide_eq_true (by omega)
 have c3b1 : decide (0 < l0.length) = true := decide_eq_true (by omega)
 clear hlen h2
 go_enter Try.func22, Try.ntmps22
 try go_wp2_with (first | ((with_reducible refine gate_dst (N := 2) rfl ?_); refine box_event ?hg (N := 2) ?hd (cs := #[.int .u8 0, .int .u8 0, .int .u8 0, .int .u16 0, .int .u8 0, .int .u16 0, .int .u32 0, .int .u32 0, .slice none 0 0, .slice none 0 0]) (t := 30) ?hr ?_; (case hd => rfl); (case hg => rfl); (case hr => first | (go_simp; done) | (go_simp; rfl)); intro gb119 hg w6 hbox hb; have n0_ := Aside0.mk (below_step (by repeat (first | (with_reducible first | exact HB.out | apply below_alloc | apply pw_below_drewN | apply below_drew1) | exact HB.out)) hb); have n1_ := Aside0.mk (hbox); have n2_ := Aside0.mk ((by rw [hg]; exact (below_size (by repeat (first | (with_reducible first | exact HB.out | apply below_alloc | apply pw_below_drewN | apply below_drew1) | exact HB.out))) : w.heap.size ≤ gb119)); have n3_ := Aside0.mk ((by rw [hg]; exact (below_size (by repeat (first | (with_reducible first | exact HB.out | apply below_alloc | apply pw_below_drewN | apply below_drew1) | exact HB.out))) : w.heap.size ≤ gb119)); clear HB; have HB := n0_; have BK119 := n1_; have GW119 := n2_; have GE119 := n3_; clear n0_ n1_ n2_ n3_; clear hb hbox hg) | ((with_reducible refine gate_callee (f := 30) rfl ?_); refine goesL_ (some 9) rfl rfl Try.func30 (by kernel_rfl) rfl #[.bool (decide ((l0.length : Int) ≥ 20)), .int .i64 20] rfl (by (try simp only [List.map_toArray, List.map_cons, List.map_nil]); first | done | rfl | (simp only [List.length_drop, List.length_take]; rfl) | (go_simp; done) | (simp [Act.eval, IntKind.signed]; done) | (simp [Act.eval, IntKind.signed]; rfl)) ?_; (with_reducible refine (ip_must.calls (decide ((l0.length : Int) ≥ 20)) 20  _ A2.out).mono ?_); rintro e w' ⟨rfl, ⟨nd, rfl⟩⟩; refine ⟨_, rfl, ?_⟩))
 (try (rw [drewN_self w6]; generalize hq_ : World.drewN w6 _ = w6; have n0_ : Aside0 (w6.heap[gb119]? = some (.cells #[.int .u8 0, .int .u8 0, .int .u8 0, .int .u16 0, .int .u8 0, .int .u16 0, .int .u32 0, .int .u32 0, .slice none 0 0, .slice none 0 0] 30 (0, 0))) := ⟨by rw [← hq_]; exact (by (with_reducible repeat (first | refine blk_drewN ?_ _ | refine blk_drew ?_ | refine blk_alloc ?_ _)); exact BK119.out)⟩; have n1_ : Aside0 (Below w.heap.size w w6) := ⟨by rw [← hq_]; exact (by repeat (first | (with_reducible first | exact HB.out | apply below_alloc | apply pw_below_drewN | apply below_drew1 | refine below_set ?_ GE119.out) | exact HB.out))⟩; clear BK119 HB hq_; have BK119 := n0_; have HB := n1_; clear n0_ n1_))
 have n0_ := Aside0.mk (blk_drew BK119.out)
 have n1_ := Aside0.mk (below_drew1 HB.out)
 clear BK119
 clear HB
 have BK119 := n0_
 have HB := n1_
 clear n0_ n1_
 have p120 : 0 ≤ (0 : Int) := (by omega)
 have q120 : 0 < (l0.length : Int) := of_decide_eq_true (by first | (with_reducible assumption) | assumption)
 obtain ⟨ad120, e120, hx120_0⟩ := Kd.at_int HR0.out 0 p120 q120
 have hw120_0 := hx120_0
 (try rw [show ((0 : Int)).toNat = 0 from rfl] at hw120_0)
 (try rw [show 0 * 1 = 0 from rfl] at hw120_0)
 (try rw [Addr.add_zero'] at hw120_0)
 cases e120
 have qi120 : (0 < l0.length) = True := eq_true (by omega)
 (try rw [show ((0 : Int)).toNat = 0 from rfl] at hx120_0)
 (try rw [Addr.add_zero'] at hx120_0)
 replace hx120_0 := (HB.out.cell (World.block_lt_of_cell? w _ hx120_0)).trans hx120_0
 replace p120 := eq_true p120
 replace q120 := eq_true q120
 refine start_ (n := 11) (S := fun w' => w'.cell? ad120 = some (.int .u8 (rd l0 0))) (ds := []) #[false, false, false, false, false, false, false, false, false, false, false] (by kernel_rfl) rfl rfl (((HB.out.cell (World.block_lt_of_cell? w _ hw120_0)).trans hw120_0)) (fun hHeld => ?_); refine with_tabW ip_reader_packet.tab2 ip_reader_packet.bits2 (fun HT_ HW_ => ?_)
 generalize w6.drew = w7 at BK119 HB hx120_0 hHeld ⊢
 refine pure_ (i := 0) (N := some 10) (v := ?_) (a' := ?_) #[true, false, false, false, false, false, false, false, false, false, false] rfl rfl (any_of HT_.out (by kernel_rfl)) (fun _ _ _ h => h) (Or.inl ⟨by rfl, ?_⟩) ?_ ?_
 rotate_left
 ·intro w'
  go_simp
  with_reducible rfl
 rotate_left
 ·simp only [Act.put, List.setIfInBounds_toArray, List.set_cons_zero, List.set_cons_succ, i64_w, i32_w]
  rfl
 refine pure_ (i := 1) (N := some 11) (v := ?_) (a' := ?_) #[true, true, false, false, false, false, false, false, false, false, false] rfl rfl (any_of HT_.out (by kernel_rfl)) (fun _ _ _ h => h) (Or.inl ⟨by rfl, ?_⟩) ?_ ?_
 rotate_left
 ·intro w'
  go_simp
  with_reducible rfl
 rotate_left
 ·simp only [Act.put, List.setIfInBounds_toArray, List.set_cons_zero, List.set_cons_succ, i64_w, i32_w]
  rfl
 refine pure_ (i := 6) (N := some 16) (v := ?_) (a' := ?_) #[true, true, false, false, false, false, true, false, false, false, false] rfl rfl (any_of HT_.out (by kernel_rfl)) (fun _ _ _ h => h) (Or.inl ⟨by rfl, ?_⟩) ?_ ?_
 rotate_left
 ·intro w'
  go_simp
  with_reducible rfl
 rotate_left
 ·simp only [Act.put, List.setIfInBounds_toArray, List.set_cons_zero, List.set_cons_succ, i64_w, i32_w]
  rfl
 refine take_ (i := 2) (N := some 12) (v := ?_) (a' := ?_) #[true, true, true, false, false, false, true, false, false, false, false] rfl rfl (take_ofW HT_.out HW_.out (by kernel_rfl)) (fun _ _ _ h => h) (Or.inl ⟨by rfl, ?_⟩) hHeld ?_ ?_
 rotate_left
 ·intro w' s0
  go_simp
  with_reducible rfl
 rotate_left
 ·simp only [Act.put, List.setIfInBounds_toArray, List.set_cons_zero, List.set_cons_succ, i64_w, i32_w]
  rfl
 refine pure_ (i := 3) (N := some 13) (v := ?_) (a' := ?_) #[true, true, true, true, false, false, true, false, false, false, false] rfl rfl (any_of HT_.out (by kernel_rfl)) (fun _ _ _ h => h) (Or.inl ⟨by rfl, ?_⟩) ?_ ?_
 rotate_left
 ·intro w'
  go_simp
  with_reducible rfl
 rotate_left
 ·simp only [Act.put, List.setIfInBounds_toArray, List.set_cons_zero, List.set_cons_succ, i64_w, i32_w]
  rfl
 refine pure_ (i := 4) (N := some 14) (v := ?_) (a' := ?_) #[true, true, true, true, true, false, true, false, false, false, false] rfl rfl (any_of HT_.out (by kernel_rfl)) (fun _ _ _ h => h) (Or.inl ⟨by rfl, ?_⟩) ?_ ?_
 rotate_left
 ·intro w'
  go_simp
  with_reducible rfl
 rotate_left
 ·simp only [Act.put, List.setIfInBounds_toArray, List.set_cons_zero, List.set_cons_succ, i64_w, i32_w]
  rfl
 refine pure_ (i := 5) (N := some 15) (v := ?_) (a' := ?_) #[true, true, true, true, true, true, true, false, false, false, false] rfl rfl (any_of HT_.out (by kernel_rfl)) (fun _ _ _ h => h) (Or.inl ⟨by rfl, ?_⟩) ?_ ?_
 rotate_left
 ·intro w'
  go_simp
  with_reducible rfl
 rotate_left
 ·simp only [Act.put, List.setIfInBounds_toArray, List.set_cons_zero, List.set_cons_succ, i64_w, i32_w]
  rfl
 refine one_ (i := 7) (N := some 17) #[true, true, true, true, true, true, true, true, false, false, false] rfl rfl (one_of HT_.out (by kernel_rfl)) (by decide) (fun K hK => ?_)
 refine goes_ Try.func31 (by kernel_rfl) rfl #[.slice (some ad120) l0.length c0, .int .i64 2] (by rfl) rfl rfl (by (try simp only [List.map_toArray, List.map_cons, List.map_nil]); first | done | rfl | (simp only [List.length_drop, List.length_take]; rfl) | (go_simp; done) | (simp [Act.eval, IntKind.signed]; done) | (simp [Act.eval, IntKind.signed]; rfl)) ?_
 with_reducible refine (ip_reader_two.calls _ _ l0 2 t121 _ ?side1 ?side2 A4.out).mono ?_
 (case side1 => repeat (first | exact (Kd.C_below HR0.out HB.out) | (with_reducible refine Kd.C_alloc ?_ _) | (with_reducible refine Kd.C_drewN ?_ _) | (with_reducible refine Kd.C_drew ?_)))
 (case side2 => exact HC0.out)
 rintro e w' ⟨rfl, ⟨nd, rfl⟩⟩
 refine ⟨_, rfl, ?_⟩
 refine hK.out _ _ (((HB.out.cell (World.block_lt_of_cell? w _ hw120_0)).trans hw120_0)) (fun hHeld => ?_)
 clear hK K
 refine norm_ (a' := ?_) ?_ ?_
 rotate_left
 ·show Act.put _ (some 17) _ = _
  simp only [Act.put, List.setIfInBounds_toArray, List.set_cons_zero, List.set_cons_succ, i64_w, i32_w]
  rfl
 refine pure_ (i := 8) (N := some 18) (v := ?_) (a' := ?_) #[true, true, true, true, true, true, true, true, true, false, false] rfl rfl (any_of HT_.out (by kernel_rfl)) (fun _ _ _ h => h) (Or.inl ⟨by rfl, ?_⟩) ?_ ?_
 rotate_left
 ·intro w'
  go_simp
  with_reducible rfl
 rotate_left
 ·simp only [Act.put, List.setIfInBounds_toArray, List.set_cons_zero, List.set_cons_succ, i64_w, i32_w]
  rfl
 refine pure_ (i := 9) (N := some 3) (v := ?_) (a' := ?_) #[true, true, true, true, true, true, true, true, true, true, false] rfl rfl (any_of HT_.out (by kernel_rfl)) (fun _ _ _ h => h) (Or.inl ⟨by rfl, ?_⟩) ?_ ?_
 rotate_left
 ·intro w'
  go_simp
  with_reducible rfl
 rotate_left
 ·simp only [Act.put, List.setIfInBounds_toArray, List.set_cons_zero, List.set_cons_succ, i64_w, i32_w]
  rfl
 refine pure_ (i := 10) (N := some 4) (v := ?_) (a' := ?_) #[true, true, true, true, true, true, true, true, true, true, true] rfl rfl (any_of HT_.out (by kernel_rfl)) (fun _ _ _ h => h) (Or.inl ⟨by rfl, ?_⟩) ?_ ?_
 rotate_left
 ·intro w'
  go_simp
  with_reducible rfl
 rotate_left
 ·simp only [Act.put, List.setIfInBounds_toArray, List.set_cons_zero, List.set_cons_succ, i64_w, i32_w]
  rfl
 refine done_ (done_of HT_.out (by kernel_rfl)) ?_
 go_upto_region 3 with (fail)
 (first | rw [c8b0] | (simp only [i64_w, i32_w]; rw [c8b0]) | skip)
 have p122 : 0 ≤ (0 : Int) := (by omega)
 have q122 : 0 < (l0.length : Int) := of_decide_eq_true (by first | (with_reducible assumption) | assumption)
 obtain ⟨ad122, e122, hx122_0⟩ := Kd.at_int HR0.out 0 p122 q122
 obtain rfl : ad120 = ad122 := (by injection e122)
 have qi122 : (0 < l0.length) = True := eq_true (by omega)
 (try rw [show ((0 : Int)).toNat = 0 from rfl] at hx122_0)
 (try rw [Addr.add_zero'] at hx122_0)
 replace hx122_0 := (HB.out.cell (World.block_lt_of_cell? w _ hx122_0)).trans hx122_0
 replace p122 := eq_true p122
 replace q122 := eq_true q122
 go_upto_region 4 with (first | ((with_reducible refine gate_callee (f := 30) rfl ?_); refine goesL_ (some 33) rfl rfl Try.func30 (by kernel_rfl) rfl #[.bool (decide ((wrap64 (t121)) ≥ (wrap64 (4 * (wrap64 (Go.bits .and .u8 (rd l0 0) 15)))))), .int .i64 21] rfl (by (try simp only [List.map_toArray, List.map_cons, List.map_nil]); first | done | rfl | (simp only [List.length_drop, List.length_take]; rfl) | (go_simp; done) | (simp [Act.eval, IntKind.signed]; done) | (simp [Act.eval, IntKind.signed]; rfl)) ?_; (with_reducible refine (ip_must.calls (decide ((wrap64 (t121)) ≥ (wrap64 (4 * (wrap64 (Go.bits .and .u8 (rd l0 0) 15)))))) 21  _ A10.out).mono ?_); rintro e w' ⟨rfl, ⟨nd, rfl⟩⟩; refine ⟨_, rfl, ?_⟩))
 obtain ⟨ji14, hji14⟩ : ∃ j_ : Int, (wrap64 (4 * (wrap64 (Go.bits .and .u8 (rd l0 0) 15)))) = j_ := ⟨_, rfl⟩
 rw [hji14] at A17 c15b1 c16b1 c15b0 c16b0
 have hji14w : (IntKind.i64.wrap (4 * (wrap64 (Go.bits .and .u8 (rd l0 0) 15)))) = ji14 := (i64_w _).trans hji14
 go_wp2_with (first | ((with_reducible refine gate_callee (f := 30) rfl ?_); refine goesL_ (some 38) rfl rfl Try.func30 (by kernel_rfl) rfl #[.bool (decide ((l0.length : Int) ≥ (wrap64 (t121)))), .int .i64 20] rfl (by (try simp only [List.map_toArray, List.map_cons, List.map_nil]); first | done | rfl | (simp only [List.length_drop, List.length_take]; rfl) | (go_simp; done) | (simp [Act.eval, IntKind.signed]; done) | (simp [Act.eval, IntKind.signed]; rfl)) ?_; (with_reducible refine (ip_must.calls (decide ((l0.length : Int) ≥ (wrap64 (t121)))) 20  _ A13.out).mono ?_); rintro e w' ⟨rfl, ⟨nd, rfl⟩⟩; refine ⟨_, rfl, ?_⟩; (try (rw [drewN_self w7]; generalize hq_ : World.drewN wc _ = w7; have n0_ : Aside0 (w7.heap[gb119]? = some (.cells #[.int .u8 0, .int .u8 0, .int .u8 0, .int .u16 0, .int .u8 0, .int .u16 0, .int .u32 0, .int .u32 0, .slice none 0 0, .slice none 0 0] 30 (0, 0))) := ⟨by rw [← hq_]; exact (by (with_reducible repeat (first | refine blk_drewN ?_ _ | refine blk_drew ?_ | refine blk_alloc ?_ _)); exact BK119.out)⟩; have n1_ : Aside0 (Below w.heap.size w w7) := ⟨by rw [← hq_]; exact (by repeat (first | (with_reducible first | exact HB.out | apply below_alloc | apply pw_below_drewN | apply below_drew1 | refine below_set ?_ GE119.out) | exact HB.out))⟩; clear BK119 HB hq_; have BK119 := n0_; have HB := n1_; clear n0_ n1_)); obtain ⟨i034, hi034, _, hsz34, _⟩ := info_parts info5; obtain ⟨hcut34, hA34, hC34⟩ := print_take_of (P := Try.prog) (Value.int .u8) 0 54 5 .i64 Try.underlying54 hi034 hsz34 (some ad120) c0 l0 (ji14) (of_decide_eq_true (by first | (with_reducible assumption) | assumption)) (of_decide_eq_true (by first | (with_reducible assumption) | assumption)) HC0.out; have HR123 := Aside0.mk (Kd.C_of_reads (h1 := fun _ => rfl) (hA34 _ (Kd.reads_of_C HR0.out))); have HC123 := Aside0.mk hC34; clear hA34 hC34 hi034 hsz34) | ((with_reducible refine gate_callee (f := 33) rfl ?_); refine goesL_ (some 42) rfl rfl Try.func33 (by kernel_rfl) rfl #[.int .u32 0, .slice (some ad120) (l0.take ((ji14) : Int).toNat).length c0] rfl (by (try simp only [List.map_toArray, List.map_cons, List.map_nil]); first | done | (rw [show (l0.take ((ji14) : Int).toNat).length = (ji14).toNat from (by rw [List.length_take]; have h_ : ((ji14) : Int) ≤ (l0.length : Int) := of_decide_eq_true (by first | (with_reducible assumption) | assumption); omega)] <;> rfl) | (simp only [hji14]; rfl) | rfl | (simp only [List.length_drop, List.length_take]; rfl) | (go_simp; done) | (simp [Act.eval, IntKind.signed]; done) | (simp [Act.eval, IntKind.signed]; rfl)) ?_; (with_reducible refine (sum_Add.calls k 0 _ _ (l0.take ((ji14) : Int).toNat) t124 _ ?side1 ?side2 A17.out).mono ?_); (case side1 => repeat (first | exact (Kd.C_below HR123.out HB.out) | (with_reducible refine Kd.C_alloc ?_ _) | (with_reducible refine Kd.C_drewN ?_ _) | (with_reducible refine Kd.C_drew ?_))); (case side2 => exact HC123.out); rintro e w35 ⟨rfl, hb⟩; refine ⟨_, rfl, ?_⟩; have n0_ := Aside0.mk (blk_below (g := gb119) (o := .cells #[.int .u8 0, .int .u8 0, .int .u8 0, .int .u16 0, .int .u8 0, .int .u16 0, .int .u32 0, .int .u32 0, .slice none 0 0, .slice none 0 0] 30 (0, 0)) (by (with_reducible repeat (first | refine blk_drewN ?_ _ | refine blk_drew ?_ | refine blk_alloc ?_ _)); exact BK119.out) hb); have n1_ := Aside0.mk (below_step (by repeat (first | (with_reducible first | exact HB.out | apply below_alloc | apply pw_below_drewN | apply below_drew1 | refine below_set ?_ GE119.out) | exact HB.out)) hb); clear BK119; clear HB; have BK119 := n0_; have HB := n1_; clear n0_ n1_; (try clear hb); (try clear hb2); (try clear hk); (try clear hi)) | ((with_reducible refine gate_callee (f := 32) rfl ?_); refine goesL_ (some 43) rfl rfl Try.func32 (by kernel_rfl) rfl #[.int .u32 t124] rfl (by (try simp only [List.map_toArray, List.map_cons, List.map_nil]); first | done | rfl | (simp only [List.length_drop, List.length_take]; rfl) | (go_simp; done) | (simp [Act.eval, IntKind.signed]; done) | (simp [Act.eval, IntKind.signed]; rfl)) ?_; (with_reducible refine (sum_Fold.calls k t124 t125 _ A18.out).mono ?_); rintro e w' ⟨rfl, ⟨nd, rfl⟩⟩; refine ⟨_, rfl, ?_⟩; (try (rw [drewN_self w35]; generalize hq_ : World.drewN w35 _ = w35; have n0_ : Aside0 (w35.heap[gb119]? = some (.cells #[.int .u8 0, .int .u8 0, .int .u8 0, .int .u16 0, .int .u8 0, .int .u16 0, .int .u32 0, .int .u32 0, .slice none 0 0, .slice none 0 0] 30 (0, 0))) := ⟨by rw [← hq_]; exact (by (with_reducible repeat (first | refine blk_drewN ?_ _ | refine blk_drew ?_ | refine blk_alloc ?_ _)); exact BK119.out)⟩; have n1_ : Aside0 (Below w.heap.size w w35) := ⟨by rw [← hq_]; exact (by repeat (first | (with_reducible first | exact HB.out | apply below_alloc | apply pw_below_drewN | apply below_drew1 | refine below_set ?_ GE119.out) | exact HB.out))⟩; clear BK119 HB hq_; have BK119 := n0_; have HB := n1_; clear n0_ n1_))) | ((with_reducible refine gate_callee (f := 30) rfl ?_); refine ip_Parse.goesP (some 45) rfl rfl Try.func30 (by kernel_rfl) rfl #[.bool (t125 == 65535), .int .i64 22] rfl (by (try simp only [List.map_toArray, List.map_cons, List.map_nil]); first | done | rfl | (simp only [List.length_drop, List.length_take]; rfl) | (go_simp; done) | (simp [Act.eval, IntKind.signed]; done) | (simp [Act.eval, IntKind.signed]; rfl)) ?_; (with_reducible refine (ip_must.panics (t125 == 65535) 22 _ HD.out).mono ?_); rintro e w' ⟨rfl, ⟨nd, rfl⟩⟩; refine ⟨_, rfl, ?_⟩; exact ⟨rfl, rfl, by repeat (first | (with_reducible first | exact HB.out | apply below_alloc | apply pw_below_drewN | apply below_drew1) | exact HB.out)⟩))
theorem ip_Parse.told {tmps : Array Value} {w : World} {gp ge : Nat} {cs : Array Value} {x : Int} (hs : cs.size = 10) (hp : tmps.getD 2 undef = .pointer (some ⟨gp, 0, none⟩)) (hg : w.heap[gp]? = some (.cells cs 30 (0, 0)))
  (he : tmps.getD 3 undef = .pointer (some ⟨ge, 0, none⟩)) (hx : w.heap[ge]? = some (.cells #[.int .i64 x] 31 (0, 0))) : (results Try.f12 tmps).run Try.prog w = .ok (.tuple #[.agg cs, .int .i64 x]) w := by
 have h1 : tmps[2]?.getD undef = .pointer (some ⟨gp, 0, none⟩) := by simpa using hp
 have h2 : tmps[3]?.getD undef = .pointer (some ⟨ge, 0, none⟩) := by simpa using he
 have hc : w.cell? ⟨ge, 0, none⟩ = some (.int .i64 x) := (blk_cell hx 0).trans rfl
 have hl : (loadVar 31 ⟨ge, 0, none⟩).run Try.prog w = .ok (.int .i64 x) w := by
  have hu := Try.underlying31
  have hagg : (isAgg 31).run Try.prog w = .ok false w := by kernel_rfl
  simp [loadVar, hu, hc, hagg]
 simp [results, Try.results12, h1, h2, asAddr, run_loadVar_row w gp 30 30 cs (0, 0) _ hg Try.underlying30 rfl (by rw [hs]; kernel_rfl), hl]
set_option maxHeartbeats 8000000 in
set_option maxRecDepth 100000 in
theorem ip_Parse.fail (x : Int) (A0 : Option Addr) (c0 n : Nat) (w : World) (hp : ∀ W, Below w.heap.size w W → Calls Try.prog 22 #[.slice A0 n c0] W fun e w' => e = .panicked [{ v := .iface 52 (.agg #[.int .i64 x]), recovered := false }] ∧ Below W.heap.size W w') :
  Calls Try.prog 12 #[.slice A0 n c0] w fun e w' => e = .returned (.tuple #[.agg #[.int .u8 0, .int .u8 0, .int .u8 0, .int .u16 0, .int .u8 0, .int .u16 0, .int .u32 0, .int .u32 0, .slice none 0 0, .slice none 0 0], .int .i64 x]) ∧ Below w.heap.size w w' := by
 have HB := Aside0.mk (Below.refl w.heap.size w)
 have HC := Aside0.mk hp
 clear hp
 have hmf : ∀ (fn : Fn) (first cap : Array Value) (w : World), (Instr.makeFunc fn first cap).run Try.prog w = .ok (.func fn first cap) w := fun _ _ _ _ => rfl
 go_enter_defers Try.func12, Try.ntmps12
 go_wp2_with (first | ((with_reducible refine gate_dst (N := 2) rfl ?_); refine box_event ?hg (N := 2) ?hd (cs := #[.int .u8 0, .int .u8 0, .int .u8 0, .int .u16 0, .int .u8 0, .int .u16 0, .int .u32 0, .int .u32 0, .slice none 0 0, .slice none 0 0]) (t := 30) ?hr ?_; (case hd => rfl); (case hg => rfl); (case hr => first | (go_simp; done) | (go_simp; rfl)); intro gp hg w1 hbox hb; have n0_ := Aside0.mk (below_step (by repeat (first | (with_reducible first | exact HB.out | apply below_alloc | apply pw_below_drewN | apply below_drew1) | exact HB.out)) hb); have HP := Aside0.mk hbox; have GP := Aside0.mk ((by rw [hg]; exact (below_size (by repeat (first | (with_reducible first | exact HB.out | apply below_alloc | apply pw_below_drewN | apply below_drew1) | exact HB.out)))) : w.heap.size ≤ gp); clear HB; have HB := n0_; clear n0_ hb hbox hg) | ((with_reducible refine gate_dst (N := 3) rfl ?_); refine box_event ?hg (N := 3) ?hd (cs := #[.int .i64 0]) (t := 31) ?hr ?_; (case hd => rfl); (case hg => rfl); (case hr => first | (go_simp; done) | (go_simp; rfl)); intro ge hg w2 hbox hb; have GN := Aside0.mk (show gp ≠ ge by rw [hg]; exact Nat.ne_of_lt (blk_lt (by (with_reducible repeat (first | refine blk_drewN ?_ _ | refine blk_drew ?_ | refine blk_alloc ?_ _)); exact HP.out))); have n1_ := Aside0.mk (blk_below (g := gp) (o := .cells #[.int .u8 0, .int .u8 0, .int .u8 0, .int .u16 0, .int .u8 0, .int .u16 0, .int .u32 0, .int .u32 0, .slice none 0 0, .slice none 0 0] 30 (0, 0)) (by (with_reducible repeat (first | refine blk_drewN ?_ _ | refine blk_drew ?_ | refine blk_alloc ?_ _)); exact HP.out) hb); have n0_ := Aside0.mk (below_step (by repeat (first | (with_reducible first | exact HB.out | apply below_alloc | apply pw_below_drewN | apply below_drew1) | exact HB.out)) hb); have HE := Aside0.mk hbox; have GE := Aside0.mk ((by rw [hg]; exact (below_size (by repeat (first | (with_reducible first | exact HB.out | apply below_alloc | apply pw_below_drewN | apply below_drew1) | exact HB.out)))) : w.heap.size ≤ ge); clear HB HP; have HB := n0_; have HP := n1_; clear n0_ n1_ hb hbox hg))
 refine (HC.out _ (by repeat (first | (with_reducible first | exact HB.out | apply below_alloc | apply pw_below_drewN | apply below_drew1) | exact HB.out))).mono ?_
 rintro e w' ⟨rfl, hb⟩
 have HP3 := Aside0.mk (blk_below (g := gp) (o := .cells #[.int .u8 0, .int .u8 0, .int .u8 0, .int .u16 0, .int .u8 0, .int .u16 0, .int .u32 0, .int .u32 0, .slice none 0 0, .slice none 0 0] 30 (0, 0)) (by (with_reducible repeat (first | refine blk_drewN ?_ _ | refine blk_drew ?_ | refine blk_alloc ?_ _)); exact HP.out) hb)
 have HE3 := Aside0.mk (blk_below (g := ge) (o := .cells #[.int .i64 0] 31 (0, 0)) (by (with_reducible repeat (first | refine blk_drewN ?_ _ | refine blk_drew ?_ | refine blk_alloc ?_ _)); exact HE.out) hb)
 have HB3 := Aside0.mk (below_step (by repeat (first | (with_reducible first | exact HB.out | apply below_alloc | apply pw_below_drewN | apply below_drew1) | exact HB.out)) hb)
 clear hb HP HE HB
 show Leaves _ _ _ _ _ _ _
 refine leaves_cons (f := 21) (args := #[.pointer (some ⟨gp, 0, none⟩), .pointer (some ⟨ge, 0, none⟩)]) (by simp) (by simp [go_sem]) ?_
 refine (ip_Parse.catch_panicking x w w' w.heap.size gp ge HP3.out HE3.out GN.out HB3.out GP.out GE.out).mono ?_
 rintro e u' w'' ⟨rfl, rfl, f1, f2, f3⟩
 exact ⟨_, ip_Parse.told rfl rfl f1 rfl f2, rfl, f3⟩
set_option maxHeartbeats 8000000 in
set_option maxRecDepth 100000 in
theorem ip_Parse.done (k : Nat) (A0 : Option Addr) (c0 : Nat) (l0 : List Int) (r1 : Int) (r2 : Int) (r3 : Int) (r4 : Int) (r5 : Int) (r6 : Int) (r7 : Int) (r8 : Int) (r9 : List Int) (r10 : List Int) (w : World) (hr0 : Kd.C (Kd.int .u8) w A0 l0.length l0) (hc0 : l0.length ≤ c0) (h : ip_reader_packet.f k l0 = some (r1, r2, r3, r4, r5, r6, r7, r8, r9, r10)) :
  Calls Try.prog 12 #[.slice A0 l0.length c0] w fun e w' => ∃ v8_ v9_ : Value, e = .returned (.tuple #[.agg #[.int .u8 r1, .int .u8 r2, .int .u8 r3, .int .u16 r4, .int .u8 r5, .int .u16 r6, .int .u32 r7, .int .u32 r8, v8_, v9_], .int .i64 0]) ∧ Kd.R (Kd.int .u8) 5 w' w.heap.size (fun k_ => some k_ ≠ (v9_ : Value).ownBlock) v8_ r9 ∧ Kd.R (Kd.int .u8) 5 w' w.heap.size (fun k_ => some k_ ≠ (v8_ : Value).ownBlock) v9_ r10 ∧ Below w.heap.size w w' := by
 have HB := Aside0.mk (Below.refl w.heap.size w)
 have HR0 := Aside0.mk hr0
 have HC0 := Aside0.mk hc0
 have HH := Aside0.mk h
 clear hr0 hc0 h
 have hu30 := Try.underlying30
 have hmf : ∀ (fn : Fn) (first cap : Array Value) (w : World), (Instr.makeFunc fn first cap).run Try.prog w = .ok (.func fn first cap) w := fun _ _ _ _ => rfl
 go_enter_defers Try.func12, Try.ntmps12
 go_wp2_with (first | ((with_reducible refine gate_dst (N := 2) rfl ?_); refine box_event ?hg (N := 2) ?hd (cs := #[.int .u8 0, .int .u8 0, .int .u8 0, .int .u16 0, .int .u8 0, .int .u16 0, .int .u32 0, .int .u32 0, .slice none 0 0, .slice none 0 0]) (t := 30) ?hr ?_; (case hd => rfl); (case hg => rfl); (case hr => first | (go_simp; done) | (go_simp; rfl)); intro gp hg w1 hbox hb; have n0_ := Aside0.mk (below_step (by repeat (first | (with_reducible first | exact HB.out | apply below_alloc | apply pw_below_drewN | apply below_drew1) | exact HB.out)) hb); have HP := Aside0.mk hbox; have GP := Aside0.mk ((by rw [hg]; exact (below_size (by repeat (first | (with_reducible first | exact HB.out | apply below_alloc | apply pw_below_drewN | apply below_drew1) | exact HB.out)))) : w.heap.size ≤ gp); clear HB; have HB := n0_; clear n0_ hb hbox hg) | ((with_reducible refine gate_dst (N := 3) rfl ?_); refine box_event ?hg (N := 3) ?hd (cs := #[.int .i64 0]) (t := 31) ?hr ?_; (case hd => rfl); (case hg => rfl); (case hr => first | (go_simp; done) | (go_simp; rfl)); intro ge hg w2 hbox hb; have GN := Aside0.mk (show gp ≠ ge by rw [hg]; exact Nat.ne_of_lt (blk_lt (by (with_reducible repeat (first | refine blk_drewN ?_ _ | refine blk_drew ?_ | refine blk_alloc ?_ _)); exact HP.out))); have n1_ := Aside0.mk (blk_below (g := gp) (o := .cells #[.int .u8 0, .int .u8 0, .int .u8 0, .int .u16 0, .int .u8 0, .int .u16 0, .int .u32 0, .int .u32 0, .slice none 0 0, .slice none 0 0] 30 (0, 0)) (by (with_reducible repeat (first | refine blk_drewN ?_ _ | refine blk_drew ?_ | refine blk_alloc ?_ _)); exact HP.out) hb); have n0_ := Aside0.mk (below_step (by repeat (first | (with_reducible first | exact HB.out | apply below_alloc | apply pw_below_drewN | apply below_drew1) | exact HB.out)) hb); have HE := Aside0.mk hbox; have GE := Aside0.mk ((by rw [hg]; exact (below_size (by repeat (first | (with_reducible first | exact HB.out | apply below_alloc | apply pw_below_drewN | apply below_drew1) | exact HB.out)))) : w.heap.size ≤ ge); clear HB HP; have HB := n0_; have HP := n1_; clear n0_ n1_ hb hbox hg))
 refine (ip_reader_packet.calls k A0 c0 l0 r1 r2 r3 r4 r5 r6 r7 r8 r9 r10 _ (Kd.C_below HR0.out (by repeat (first | (with_reducible first | exact HB.out | apply below_alloc | apply pw_below_drewN | apply below_drew1) | exact HB.out))) HC0.out HH.out).mono ?_
 rintro e w' ⟨v8_, v9_, rfl, ho8, ho9, hb⟩
 obtain ⟨B8, d8, rfl⟩ := Kd.R_slice ho8
 obtain ⟨B9, d9, rfl⟩ := Kd.R_slice ho9
 have HP3 := Aside0.mk (blk_below (g := gp) (o := .cells #[.int .u8 0, .int .u8 0, .int .u8 0, .int .u16 0, .int .u8 0, .int .u16 0, .int .u32 0, .int .u32 0, .slice none 0 0, .slice none 0 0] 30 (0, 0)) (by (with_reducible repeat (first | refine blk_drewN ?_ _ | refine blk_drew ?_ | refine blk_alloc ?_ _)); exact HP.out) hb)
 have HE3 := Aside0.mk (blk_below (g := ge) (o := .cells #[.int .i64 0] 31 (0, 0)) (by (with_reducible repeat (first | refine blk_drewN ?_ _ | refine blk_drew ?_ | refine blk_alloc ?_ _)); exact HE.out) hb)
 have HB3 := Aside0.mk (below_step (by repeat (first | (with_reducible first | exact HB.out | apply below_alloc | apply pw_below_drewN | apply below_drew1) | exact HB.out)) hb)
 have HLP : gp < w2.heap.size := blk_lt HP.out
 have HLE : ge < w2.heap.size := blk_lt HE.out
 have HS : w.heap.size ≤ w2.heap.size := below_size (by repeat (first | (with_reducible first | exact HB.out | apply below_alloc | apply pw_below_drewN | apply below_drew1) | exact HB.out))
 have O8 := Aside0.mk ho8
 have O9 := Aside0.mk ho9
 clear hb HP HE HB ho8 ho9
 (try dsimp only)
 have hs0 : w'.cell? ⟨gp, 0, none⟩ = some (.int .u8 0) := (blk_cell HP3.out 0).trans rfl
 have hfs0 := blk_frozen HP3.out 0
 have hs1 : w'.cell? ⟨gp, 1, none⟩ = some (.int .u8 0) := (blk_cell HP3.out 1).trans rfl
 have hfs1 := blk_frozen HP3.out 1
 have hs2 : w'.cell? ⟨gp, 2, none⟩ = some (.int .u8 0) := (blk_cell HP3.out 2).trans rfl
 have hfs2 := blk_frozen HP3.out 2
 have hs3 : w'.cell? ⟨gp, 3, none⟩ = some (.int .u16 0) := (blk_cell HP3.out 3).trans rfl
 have hfs3 := blk_frozen HP3.out 3
 have hs4 : w'.cell? ⟨gp, 4, none⟩ = some (.int .u8 0) := (blk_cell HP3.out 4).trans rfl
 have hfs4 := blk_frozen HP3.out 4
 have hs5 : w'.cell? ⟨gp, 5, none⟩ = some (.int .u16 0) := (blk_cell HP3.out 5).trans rfl
 have hfs5 := blk_frozen HP3.out 5
 have hs6 : w'.cell? ⟨gp, 6, none⟩ = some (.int .u32 0) := (blk_cell HP3.out 6).trans rfl
 have hfs6 := blk_frozen HP3.out 6
 have hs7 : w'.cell? ⟨gp, 7, none⟩ = some (.int .u32 0) := (blk_cell HP3.out 7).trans rfl
 have hfs7 := blk_frozen HP3.out 7
 have hs8 : w'.cell? ⟨gp, 8, none⟩ = some (.slice none 0 0) := (blk_cell HP3.out 8).trans rfl
 have hfs8 := blk_frozen HP3.out 8
 have hs9 : w'.cell? ⟨gp, 9, none⟩ = some (.slice none 0 0) := (blk_cell HP3.out 9).trans rfl
 have hfs9 := blk_frozen HP3.out 9
 have hse : w'.cell? ⟨ge, 0, none⟩ = some (.int .i64 0) := (blk_cell HE3.out 0).trans rfl
 have hfse := blk_frozen HE3.out 0
 have hnge : gp ≠ ge := GN.out
 have hneg : ge ≠ gp := fun e => hnge e.symm
 go_wp2
 clear hs0 hfs0 hs1 hfs1 hs2 hfs2 hs3 hfs3 hs4 hfs4 hs5 hfs5 hs6 hfs6 hs7 hfs7 hs8 hfs8 hs9 hfs9
 have b0 := HP3.out
 have e0 := HE3.out
 have l0_ := HB3.out
 have u0 := O8.out
 have t0 := O9.out
 have b1 := blk_put (cs' := #[.int .u8 r1, .int .u8 0, .int .u8 0, .int .u16 0, .int .u8 0, .int .u16 0, .int .u32 0, .int .u32 0, .slice none 0 0, .slice none 0 0]) b0 0 (.int .u8 r1) rfl
 have e1 := blk_far e0 (p := ⟨gp, 0, none⟩) hneg (.int .u8 r1)
 have l1_ := Below.setCell (p := ⟨gp, 0, none⟩) l0_ GP.out (.int .u8 r1)
 have u1 := Kd.R_set u0 b0 (by decide) 0 (.int .u8 r1)
 have t1 := Kd.R_set t0 b0 (by decide) 0 (.int .u8 r1)
 clear b0 e0 l0_ u0 t0
 have b2 := blk_put (cs' := #[.int .u8 r1, .int .u8 r2, .int .u8 0, .int .u16 0, .int .u8 0, .int .u16 0, .int .u32 0, .int .u32 0, .slice none 0 0, .slice none 0 0]) b1 1 (.int .u8 r2) rfl
 have e2 := blk_far e1 (p := ⟨gp, 1, none⟩) hneg (.int .u8 r2)
 have l2_ := Below.setCell (p := ⟨gp, 1, none⟩) l1_ GP.out (.int .u8 r2)
 have u2 := Kd.R_set u1 b1 (by decide) 1 (.int .u8 r2)
 have t2 := Kd.R_set t1 b1 (by decide) 1 (.int .u8 r2)
 clear b1 e1 l1_ u1 t1
 have b3 := blk_put (cs' := #[.int .u8 r1, .int .u8 r2, .int .u8 r3, .int .u16 0, .int .u8 0, .int .u16 0, .int .u32 0, .int .u32 0, .slice none 0 0, .slice none 0 0]) b2 2 (.int .u8 r3) rfl
 have e3 := blk_far e2 (p := ⟨gp, 2, none⟩) hneg (.int .u8 r3)
 have l3_ := Below.setCell (p := ⟨gp, 2, none⟩) l2_ GP.out (.int .u8 r3)
 have u3 := Kd.R_set u2 b2 (by decide) 2 (.int .u8 r3)
 have t3 := Kd.R_set t2 b2 (by decide) 2 (.int .u8 r3)
 clear b2 e2 l2_ u2 t2
 have b4 := blk_put (cs' := #[.int .u8 r1, .int .u8 r2, .int .u8 r3, .int .u16 r4, .int .u8 0, .int .u16 0, .int .u32 0, .int .u32 0, .slice none 0 0, .slice none 0 0]) b3 3 (.int .u16 r4) rfl
 have e4 := blk_far e3 (p := ⟨gp, 3, none⟩) hneg (.int .u16 r4)
 have l4_ := Below.setCell (p := ⟨gp, 3, none⟩) l3_ GP.out (.int .u16 r4)
 have u4 := Kd.R_set u3 b3 (by decide) 3 (.int .u16 r4)
 have t4 := Kd.R_set t3 b3 (by decide) 3 (.int .u16 r4)
 clear b3 e3 l3_ u3 t3
 have b5 := blk_put (cs' := #[.int .u8 r1, .int .u8 r2, .int .u8 r3, .int .u16 r4, .int .u8 r5, .int .u16 0, .int .u32 0, .int .u32 0, .slice none 0 0, .slice none 0 0]) b4 4 (.int .u8 r5) rfl
 have e5 := blk_far e4 (p := ⟨gp, 4, none⟩) hneg (.int .u8 r5)
 have l5_ := Below.setCell (p := ⟨gp, 4, none⟩) l4_ GP.out (.int .u8 r5)
 have u5 := Kd.R_set u4 b4 (by decide) 4 (.int .u8 r5)
 have t5 := Kd.R_set t4 b4 (by decide) 4 (.int .u8 r5)
 clear b4 e4 l4_ u4 t4
 have b6 := blk_put (cs' := #[.int .u8 r1, .int .u8 r2, .int .u8 r3, .int .u16 r4, .int .u8 r5, .int .u16 r6, .int .u32 0, .int .u32 0, .slice none 0 0, .slice none 0 0]) b5 5 (.int .u16 r6) rfl
 have e6 := blk_far e5 (p := ⟨gp, 5, none⟩) hneg (.int .u16 r6)
 have l6_ := Below.setCell (p := ⟨gp, 5, none⟩) l5_ GP.out (.int .u16 r6)
 have u6 := Kd.R_set u5 b5 (by decide) 5 (.int .u16 r6)
 have t6 := Kd.R_set t5 b5 (by decide) 5 (.int .u16 r6)
 clear b5 e5 l5_ u5 t5
 have b7 := blk_put (cs' := #[.int .u8 r1, .int .u8 r2, .int .u8 r3, .int .u16 r4, .int .u8 r5, .int .u16 r6, .int .u32 r7, .int .u32 0, .slice none 0 0, .slice none 0 0]) b6 6 (.int .u32 r7) rfl
 have e7 := blk_far e6 (p := ⟨gp, 6, none⟩) hneg (.int .u32 r7)
 have l7_ := Below.setCell (p := ⟨gp, 6, none⟩) l6_ GP.out (.int .u32 r7)
 have u7 := Kd.R_set u6 b6 (by decide) 6 (.int .u32 r7)
 have t7 := Kd.R_set t6 b6 (by decide) 6 (.int .u32 r7)
 clear b6 e6 l6_ u6 t6
 have b8 := blk_put (cs' := #[.int .u8 r1, .int .u8 r2, .int .u8 r3, .int .u16 r4, .int .u8 r5, .int .u16 r6, .int .u32 r7, .int .u32 r8, .slice none 0 0, .slice none 0 0]) b7 7 (.int .u32 r8) rfl
 have e8 := blk_far e7 (p := ⟨gp, 7, none⟩) hneg (.int .u32 r8)
 have l8_ := Below.setCell (p := ⟨gp, 7, none⟩) l7_ GP.out (.int .u32 r8)
 have u8 := Kd.R_set u7 b7 (by decide) 7 (.int .u32 r8)
 have t8 := Kd.R_set t7 b7 (by decide) 7 (.int .u32 r8)
 clear b7 e7 l7_ u7 t7
 have b9 := blk_put (cs' := #[.int .u8 r1, .int .u8 r2, .int .u8 r3, .int .u16 r4, .int .u8 r5, .int .u16 r6, .int .u32 r7, .int .u32 r8, .slice B8 r9.length d8, .slice none 0 0]) b8 8 (.slice B8 r9.length d8) rfl
 have e9 := blk_far e8 (p := ⟨gp, 8, none⟩) hneg (.slice B8 r9.length d8)
 have l9_ := Below.setCell (p := ⟨gp, 8, none⟩) l8_ GP.out (.slice B8 r9.length d8)
 have u9 := Kd.R_set u8 b8 (by decide) 8 (.slice B8 r9.length d8)
 have t9 := Kd.R_set t8 b8 (by decide) 8 (.slice B8 r9.length d8)
 clear b8 e8 l8_ u8 t8
 have b10 := blk_put (cs' := #[.int .u8 r1, .int .u8 r2, .int .u8 r3, .int .u16 r4, .int .u8 r5, .int .u16 r6, .int .u32 r7, .int .u32 r8, .slice B8 r9.length d8, .slice B9 r10.length d9]) b9 9 (.slice B9 r10.length d9) rfl
 have e10 := blk_far e9 (p := ⟨gp, 9, none⟩) hneg (.slice B9 r10.length d9)
 have l10_ := Below.setCell (p := ⟨gp, 9, none⟩) l9_ GP.out (.slice B9 r10.length d9)
 have u10 := Kd.R_set u9 b9 (by decide) 9 (.slice B9 r10.length d9)
 have t10 := Kd.R_set t9 b9 (by decide) 9 (.slice B9 r10.length d9)
 clear b9 e9 l9_ u9 t9
 have b11 := blk_far b10 (p := ⟨ge, 0, none⟩) hnge (.int .i64 0)
 have e11 := blk_put (cs' := #[.int .i64 0]) e10 0 (.int .i64 0) rfl
 have l11_ := Below.setCell (p := ⟨ge, 0, none⟩) l10_ GE.out (.int .i64 0)
 have u11 := Kd.R_set u10 e10 (by decide) 0 (.int .i64 0)
 have t11 := Kd.R_set t10 e10 (by decide) 0 (.int .i64 0)
 clear HP3 HE3 HB3 O8 O9 hse hfse
 show Leaves _ _ _ _ _ _ _
 refine leaves_cons (f := 21) (args := #[.pointer (some ⟨gp, 0, none⟩), .pointer (some ⟨ge, 0, none⟩)]) (by simp) (by simp [go_sem]) ?_
 refine (ip_Parse.catch_idle ⟨gp, 0, none⟩ ⟨ge, 0, none⟩ _).mono ?_
 rintro e u' w'' ⟨rfl, rfl, rfl⟩
 exact ⟨_, ip_Parse.told rfl rfl b11 rfl e11, _, _, rfl, Kd.R_lower u11 HS, Kd.R_lower t11 HS, l11_⟩
def ip_Parse.f (k : Nat) (l0 : List Int) : Option (Int × Int × Int × Int × Int × Int × Int × Int × List Int × List Int × Int) :=
 if (l0.length : Int) < 20 then some (0, 0, 0, 0, 0, 0, 0, 0, [], [], 20) else (ip_reader_two.f l0 2).bind fun t =>
 if (rd l0 0) / 16 = 4 ∧ (wrap64 (4 * (wrap64 (Go.bits .and .u8 (rd l0 0) 15)))) ≥ 20 ∧ (wrap64 (t)) ≥ (wrap64 (4 * (wrap64 (Go.bits .and .u8 (rd l0 0) 15)))) then
  if (l0.length : Int) < (wrap64 (t)) then some (0, 0, 0, 0, 0, 0, 0, 0, [], [], 20) else
  (sum_Add.f k 0 (l0.take ((wrap64 (4 * (wrap64 (Go.bits .and .u8 (rd l0 0) 15)))) : Int).toNat)).bind fun a => (sum_Fold.f k a).bind fun b =>
  if b = 65535 then (ip_reader_packet.f k l0).bind fun p => some (p.1, p.2.1, p.2.2.1, p.2.2.2.1, p.2.2.2.2.1, p.2.2.2.2.2.1, p.2.2.2.2.2.2.1, p.2.2.2.2.2.2.2.1, p.2.2.2.2.2.2.2.2.1, p.2.2.2.2.2.2.2.2.2, 0)
  else some (0, 0, 0, 0, 0, 0, 0, 0, [], [], 22)
 else some (0, 0, 0, 0, 0, 0, 0, 0, [], [], 21)
theorem ip_Parse.mono : ∀ a0 k, LeO (ip_Parse.f k a0) (ip_Parse.f (k + 1) a0) := by
 intro a0 k
 unfold ip_Parse.f
 repeat' first
   | (with_reducible exact sum_Add.mono _ _ _)
   | (with_reducible exact sum_Fold.mono _ _)
   | (with_reducible exact ip_reader_packet.mono _ _)
   | (with_reducible exact LeO.refl _)
   | (with_reducible refine LeO.ite ?_ ?_)
   | (with_reducible refine LeO.bind ?_ (fun _ => ?_))
theorem ip_Parse.calls (k : Nat) (A0 : Option Addr) (c0 : Nat) (l0 : List Int) (r1 : Int) (r2 : Int) (r3 : Int) (r4 : Int) (r5 : Int) (r6 : Int) (r7 : Int) (r8 : Int) (r9 : List Int) (r10 : List Int) (r11 : Int) (w : World) (hr0 : Kd.C (Kd.int .u8) w A0 l0.length l0) (hc0 : l0.length ≤ c0) (h : ip_Parse.f k l0 = some (r1, r2, r3, r4, r5, r6, r7, r8, r9, r10, r11)) :
  Calls Try.prog 12 #[.slice A0 l0.length c0] w fun e w' => ∃ v8_ v9_ : Value, e = .returned (.tuple #[.agg #[.int .u8 r1, .int .u8 r2, .int .u8 r3, .int .u16 r4, .int .u8 r5, .int .u16 r6, .int .u32 r7, .int .u32 r8, v8_, v9_], .int .i64 r11]) ∧ Kd.R (Kd.int .u8) 5 w' w.heap.size (fun k_ => some k_ ≠ (v9_ : Value).ownBlock) v8_ r9 ∧ Kd.R (Kd.int .u8) 5 w' w.heap.size (fun k_ => some k_ ≠ (v8_ : Value).ownBlock) v9_ r10 ∧ Below w.heap.size w w' := by
 have fail : ∀ x : Int, (∀ W, Below w.heap.size w W → Calls Try.prog 22 #[.slice A0 l0.length c0] W fun e w' => e = .panicked [{ v := .iface 52 (.agg #[.int .i64 x]), recovered := false }] ∧ Below W.heap.size W w') → some (0, 0, 0, 0, 0, 0, 0, 0, ([] : List Int), ([] : List Int), x) = some (r1, r2, r3, r4, r5, r6, r7, r8, r9, r10, r11) →
   Calls Try.prog 12 #[.slice A0 l0.length c0] w fun e w' => ∃ v8_ v9_ : Value, e = .returned (.tuple #[.agg #[.int .u8 r1, .int .u8 r2, .int .u8 r3, .int .u16 r4, .int .u8 r5, .int .u16 r6, .int .u32 r7, .int .u32 r8, v8_, v9_], .int .i64 r11]) ∧ Kd.R (Kd.int .u8) 5 w' w.heap.size (fun k_ => some k_ ≠ (v9_ : Value).ownBlock) v8_ r9 ∧ Kd.R (Kd.int .u8) 5 w' w.heap.size (fun k_ => some k_ ≠ (v8_ : Value).ownBlock) v9_ r10 ∧ Below w.heap.size w w' := by
  intro x hp hx
  simp only [Option.some.injEq, Prod.mk.injEq] at hx
  obtain ⟨rfl, rfl, rfl, rfl, rfl, rfl, rfl, rfl, rfl, rfl, rfl⟩ := hx
  refine (ip_Parse.fail x A0 c0 l0.length w hp).mono ?_
  rintro e w' ⟨rfl, hb⟩
  exact ⟨_, _, rfl, Kd.R_nil _ _ _ _ _, Kd.R_nil _ _ _ _ _, hb⟩
 unfold ip_Parse.f at h
 by_cases c1 : (l0.length : Int) < 20
 ·rw [if_pos c1] at h
  exact fail 20 (fun W hW => ip_reader_packet.pan1 A0 c0 l0 W (Kd.C_below hr0 hW) hc0 c1) h
 ·rw [if_neg c1] at h
  obtain ⟨t, h2, h⟩ := Option.bind_eq_some_iff.mp h
  have c1' : (l0.length : Int) ≥ 20 := by omega
  by_cases c2 : (rd l0 0) / 16 = 4 ∧ (wrap64 (4 * (wrap64 (Go.bits .and .u8 (rd l0 0) 15)))) ≥ 20 ∧ (wrap64 (t)) ≥ (wrap64 (4 * (wrap64 (Go.bits .and .u8 (rd l0 0) 15))))
  ·rw [if_pos c2] at h
   by_cases c3 : (l0.length : Int) < (wrap64 (t))
   ·rw [if_pos c3] at h
    exact fail 20 (fun W hW => ip_reader_packet.pan3 t A0 c0 l0 W (Kd.C_below hr0 hW) hc0 c1' h2 c2 c3) h
   ·rw [if_neg c3] at h
    obtain ⟨a, ha, h⟩ := Option.bind_eq_some_iff.mp h
    obtain ⟨b, hb, h⟩ := Option.bind_eq_some_iff.mp h
    by_cases c4 : b = 65535
    ·rw [if_pos c4] at h
     obtain ⟨p, hp, h⟩ := Option.bind_eq_some_iff.mp h
     obtain ⟨p1, p2, p3, p4, p5, p6, p7, p8, p9, p10⟩ := p
     simp only [Option.some.injEq, Prod.mk.injEq] at h
     obtain ⟨rfl, rfl, rfl, rfl, rfl, rfl, rfl, rfl, rfl, rfl, rfl⟩ := h
     exact ip_Parse.done k A0 c0 l0 _ _ _ _ _ _ _ _ _ _ w hr0 hc0 hp
    ·rw [if_neg c4] at h
     exact fail 22 (fun W hW => ip_reader_packet.pan4 k t a b A0 c0 l0 W (Kd.C_below hr0 hW) hc0 c1' h2 c2 (by omega) ha hb c4) h
  ·rw [if_neg c2] at h
   exact fail 21 (fun W hW => ip_reader_packet.pan2 t A0 c0 l0 W (Kd.C_below hr0 hW) hc0 c1' h2 c2) h

end Go.Proofs.Ytmlmiiejifhfeaa.PA
