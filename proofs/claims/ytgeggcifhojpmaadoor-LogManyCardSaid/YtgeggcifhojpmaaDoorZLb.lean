/- Texts of this claim, merged: LogRead, LogModel. -/
import Derived.Test.YtgeggcifhojpmaaDoorZLa
import Derived.Deep.WholeRow
/- What read tells of a block's bytes. -/
namespace Go.Proofs.YtgeggcifhojpmaaDoor.PB
open Go.RowKit Go.Proofs.YtgeggcifhojpmaaDoorW.PrintWords Go.Proofs.YtgeggcifhojpmaaDoorW.PrintLast Go.Proofs.YtgeggcifhojpmaaDoorW.PrintMore
attribute [local go_sem] max2_mx min2_mn max_two min_two max_three min_three max_four min_four   -- for this text's walks alone
set_option linter.unusedVariables false
set_option linter.unusedSimpArgs false

theorem info65s : (Tryd.prog.info? 65).map (·.size) = some 5 := by kernel_rfl
section
variable {P : Program} {ops : Array Oper} {rest : List Oper} {o : Oper} {a : Act} {Q : Exit → Act → World → Prop}
theorem event_skip {W w1 : World} (hgd : o.guard = none) (hd : o.dst = none) (hrun : (execOp a.eval o).run P W = .ok .skip w1) (h : wpList P ops Q rest a w1) : wpList P ops Q (o :: rest) a W := by
  refine wpList_plain hgd fun K hK => ?_
  unfold Oper.wp
  rw [hrun]
  refine hK _ _ ?_
  rw [hd]
  exact h
theorem load_row {w : World} {c : Array Value} {g : Nat} {t ty : TypeId} {p : Operand} {d : TypeDesc} (ho : o.op = .load ty p) (hp : a.eval p = .pointer (some ⟨g, 0, none⟩)) (hg : w.heap[g]? = some (.cells c t (0, 0))) (hu : P.underlying ty = some d) (hd : (match d with | .struct _ | .array _ _ => true | _ => false) = true) (hi : (P.info? ty).map (·.size) = some c.size) :
    (execOp a.eval o).run P w = .ok (.value (.agg c)) w := by
  have h := run_loadVar_row (P := P) w g t ty c (0, 0) d hg hu hd hi
  unfold execOp
  simp only [ho, hp]
  simp [Instr.loadAt, Instr.sureAddr, h, Sem.run_bind, Result.andThen]
theorem store_row {w : World} {old c' : Array Value} {g : Nat} {t ty : TypeId} {p x : Operand} (ho : o.op = .store ty p x) (hp : a.eval p = .pointer (some ⟨g, 0, none⟩)) (hx : a.eval x = .agg c') (hg : w.heap[g]? = some (.cells old t (0, 0))) (hi : (P.info? ty).map (·.size) = some c'.size) (hs : old.size = c'.size) (h1 : c'.all (·.oneCell') = true) :
    (execOp a.eval o).run P w = .ok .skip (w.setRow g c') := by
  have h := run_storeVar_row (P := P) w g t ty old c' hg hi hs h1
  unfold execOp
  simp only [ho, hp, hx]
  simp [Instr.storeAt, Instr.sureAddr, h, Sem.run_bind, Result.andThen]
end
theorem lg_getv {w : World} {c : Nat} {l : List Int} (hc : w.heap[c]? = some (.cells (dkB l) 5 (0, 0))) (hb : IsB l) (hl : l.length ≤ 1000000) (off L cap : Nat) (hL : off + L ≤ l.length) (hL8 : L ≤ 8) (hcap : L ≤ cap) {v : Int} (hv : un ((l.drop off).take L) = v) :
    Calls Tryd.prog 31 #[.slice (some ⟨c, off, none⟩) L cap] w fun e w' => e = .returned (.int .u64 v) ∧ Drawn0 w w' := by
  subst hv
  exact lg_get hc hb hl off L cap hL hL8 hcap
def log_read.R2.T : Bool × List (List Nat × List Nat) := (true, [([], []), ([0], [0]), ([1], [1]), ([], []), ([3], [3]), ([4, 2], [4]), ([], []), ([6], [6]), ([7, 5], [7]), ([8], [8]), ([], []), ([10], [10]), ([11, 8], [11]), ([12], [12]), ([], []), ([], []), ([15], [15]), ([14, 16], [14, 16]), ([2, 5, 9, 13, 17], [2, 5, 9, 13, 17]), ([], []), ([19, 18, 12, 0, 1, 2, 3, 4, 5, 6, 7, 8, 9, 10, 11, 12, 13, 14, 15, 16, 17, 18, 19], [18, 19])])
theorem log_read.R2.tab : rtab .any (opsOf Tryd.f38 2) = log_read.R2.T := by kernel_rfl
theorem log_read.R2.bits : waitsOk log_read.R2.T.2 [0, 1, 3, 0, 8, 31, 0, 64, 255, 511, 0, 1024, 3583, 7679, 0, 0, 32768, 114688, 262143, 0, 1048575] = true := by kernel_rfl
def log_read.R3.T : Bool × List (List Nat × List Nat) := (true, [([], []), ([0], [0]), ([1], [1]), ([2], [2]), ([3], [3]), ([4, 3], [3, 4]), ([3], [3]), ([3], [3]), ([7, 3], [3, 7]), ([6, 8, 3], [3, 6, 8]), ([9, 3, 3], [3, 9]), ([5, 10, 3], [3, 5, 10]), ([3, 11], [3, 11]), ([12, 10], [12]), ([13], [13]), ([13], [13]), ([15, 13], [13, 15]), ([13], [13]), ([17, 13], [13, 17]), ([14, 16, 18, 13], [13, 14, 16, 18]), ([19, 13, 13], [13, 19]), ([13], [13]), ([13], [13]), ([22, 13], [13, 22]), ([21, 23, 13], [13, 21, 23]), ([24, 20, 13], [13, 24]), ([25, 13], [13, 25]), ([20, 26, 13], [13, 20, 26]), ([13, 27], [13, 27])])
theorem log_read.R3.tab : rtab .any (opsOf Tryd.f38 3) = log_read.R3.T := by kernel_rfl
theorem log_read.R3.bits : waitsOk log_read.R3.T.2 [0, 1, 3, 7, 15, 31, 15, 15, 143, 463, 975, 2047, 4095, 8191, 16383, 16383, 49151, 16383, 147455, 524287, 1048575, 16383, 16383, 4210687, 14696447, 33554431, 67108863, 134217727, 268435455] = true := by kernel_rfl
def log_read.R4.T : Bool × List (List Nat × List Nat) := (true, [([], []), ([], []), ([0, 0], [0]), ([1, 2, 0, 1, 2], [1])])
theorem log_read.R4.tab : rtab .any (opsOf Tryd.f38 4) = log_read.R4.T := by kernel_rfl
theorem log_read.R4.bits : waitsOk log_read.R4.T.2 [0, 0, 1, 7] = true := by kernel_rfl
set_option maxHeartbeats 16000000 in
set_option maxRecDepth 100000 in
theorem log_read.calls {w : World} {c s : Nat} {l : List Int} (hc : w.heap[c]? = some (.cells (dkB l) 5 (0, 0))) (ib : IsB l) (hl : l.length = s) (h36 : 36 ≤ s) (hs : s ≤ 65536) (ge : Addr) (hge : w.cell? ⟨0, 0, none⟩ = some (.iface 91 (.pointer (some ge))))
    (m r ln i tm tc cs : Int) (vm : un ((l.drop 0).take 8) = m) (vr : un ((l.drop 8).take 8) = r) (vl : un ((l.drop 16).take 4) = ln) (vi : un ((l.drop 20).take 4) = i) (vt : un ((l.drop (s - 8)).take 8) = tm) (vc : un ((l.drop (s - 12)).take 4) = tc) (vs : crcF (l.take (s - 12)) = cs)
    (rv : Value) (hrv : rv = if m = 0 ∨ m ≠ tm ∨ tc ≠ cs then .tuple #[.agg #[.int .u64 0, .int .u64 0, .int .i64 0, .int .i64 0, .slice none 0 0], .iface 91 (.pointer (some ge))] else .tuple #[.agg #[.int .u64 m, .int .u64 r, .int .i64 ln, .int .i64 i, .slice (some ⟨c, 24, none⟩) (s - 36) (s - 24)], .nilIface]) :
    Calls Tryd.prog 38 #[.slice (some ⟨c, 0, none⟩) s s] w fun e w' => e = .returned rv ∧ Below w.heap.size w w' := by
  have hu65 := Tryd.underlying65
  have IB := Aside0.mk ib
  have LN := Aside0.mk (And.intro hl (And.intro h36 hs))
  have HRV := Aside0.mk hrv
  clear hrv
  have VM := Aside0.mk vm
  have VR := Aside0.mk vr
  have VL := Aside0.mk vl
  have VI := Aside0.mk vi
  have VT := Aside0.mk vt
  have VC := Aside0.mk vc
  have VS := Aside0.mk vs
  have q4 : ∀ o, 0 ≤ un ((l.drop o).take 4) ∧ un ((l.drop o).take 4) < 4294967296 := fun o => by
    have h1 := un_range ((l.drop o).take 4) ((ib.drop o).take 4)
    have h2 : 256 ^ ((l.drop o).take 4).length ≤ 256 ^ 4 := Nat.pow_le_pow_right (by decide) (by rw [List.length_take]; omega)
    have h3 : 256 ^ 4 = 4294967296 := by decide
    omega
  have wl : wrap64 ln = ln := by have := q4 16; unfold wrap64; omega
  have wi : wrap64 i = i := by have := q4 20; unfold wrap64; omega
  have wcs : IntKind.u64.wrap cs = cs := by have := (sum_f (l.take (s - 12)) (by rw [List.length_take]; omega)).2; rw [IntKind.wrap_u64]; omega
  clear q4
  have l8a : (8 ≤ s) = True := eq_true (by omega)
  have l8b : ((8 : Int) ≤ ((s : Nat) : Int)) = True := eq_true (by omega)
  have l8c : (((s : Nat) : Int) < (8 : Int)) = False := eq_false (by omega)
  have l8d : (s < 8) = False := eq_false (by omega)
  have l16a : (16 ≤ s) = True := eq_true (by omega)
  have l16b : ((16 : Int) ≤ ((s : Nat) : Int)) = True := eq_true (by omega)
  have l16c : (((s : Nat) : Int) < (16 : Int)) = False := eq_false (by omega)
  have l16d : (s < 16) = False := eq_false (by omega)
  have l20a : (20 ≤ s) = True := eq_true (by omega)
  have l20b : ((20 : Int) ≤ ((s : Nat) : Int)) = True := eq_true (by omega)
  have l20c : (((s : Nat) : Int) < (20 : Int)) = False := eq_false (by omega)
  have l20d : (s < 20) = False := eq_false (by omega)
  have l24a : (24 ≤ s) = True := eq_true (by omega)
  have l24b : ((24 : Int) ≤ ((s : Nat) : Int)) = True := eq_true (by omega)
  have l24c : (((s : Nat) : Int) < (24 : Int)) = False := eq_false (by omega)
  have l24d : (s < 24) = False := eq_false (by omega)
  have l12a : (24 ≤ s - 12) = True := eq_true (by omega)
  have l12b : ((24 : Int) ≤ ((s - 12 : Nat) : Int)) = True := eq_true (by omega)
  have l12c : (((s - 12 : Nat) : Int) < (24 : Int)) = False := eq_false (by omega)
  have l12d : (s - 12 < 24) = False := eq_false (by omega)
  have k12a : (s - 12 ≤ s) = True := eq_true (by omega)
  have k12b : (((s - 12 : Nat) : Int) ≤ ((s : Nat) : Int)) = True := eq_true (by omega)
  have k12c : (((s : Nat) : Int) < ((s - 12 : Nat) : Int)) = False := eq_false (by omega)
  have k12d : (s < s - 12) = False := eq_false (by omega)
  have k8a : (s - 8 ≤ s) = True := eq_true (by omega)
  have k8b : (((s - 8 : Nat) : Int) ≤ ((s : Nat) : Int)) = True := eq_true (by omega)
  have k8c : (((s : Nat) : Int) < ((s - 8 : Nat) : Int)) = False := eq_false (by omega)
  have k8d : (s < s - 8) = False := eq_false (by omega)
  have kka : (s - 12 ≤ s - 8) = True := eq_true (by omega)
  have kkb : (((s - 12 : Nat) : Int) ≤ ((s - 8 : Nat) : Int)) = True := eq_true (by omega)
  have kkc : (((s - 8 : Nat) : Int) < ((s - 12 : Nat) : Int)) = False := eq_false (by omega)
  have kkd : (s - 8 < s - 12) = False := eq_false (by omega)
  have n8 : (s = 8) = False := eq_false (by omega)
  have n16 : (s = 16) = False := eq_false (by omega)
  have n20 : (s = 20) = False := eq_false (by omega)
  have n24 : (s = 24) = False := eq_false (by omega)
  have n12 : (s = s - 12) = False := eq_false (by omega)
  have m8 : (s = s - 8) = False := eq_false (by omega)
  have z8 : s - (s - 8) = 8 := by omega
  have z12 : s - (s - 12) = 12 := by omega
  have y4 : s - 8 - (s - 12) = 4 := by omega
  have y36 : s - 12 - 24 = s - 36 := by omega
  have x12 : wrap64 ((s : Int) - 12) = ((s - 12 : Nat) : Int) := by unfold wrap64; omega
  have x8 : wrap64 ((s : Int) - 8) = ((s - 8 : Nat) : Int) := by unfold wrap64; omega

  have HC0 := Aside0.mk hc
  have GE0 := Aside0.mk hge
  clear vm vr vl vi vt vc vs hl h36 hs ib hc hge
  go_enter Tryd.func38, Tryd.ntmps38
  go_upto_region 2 with (fail)
  obtain ⟨yb, hyb⟩ : ∃ yb, yb = w.heap.size := ⟨_, rfl⟩
  have YBL := Aside0.mk (show w.heap.size ≤ yb by omega)
  have HY0 : Aside0 ((w.alloc (.cells #[.int .u64 0, .int .u64 0, .int .i64 0, .int .i64 0, .slice none 0 0] 65)).heap[yb]? = some (.cells #[.int .u64 0, .int .u64 0, .int .i64 0, .int .i64 0, .slice none 0 0] 65 (0, 0))) := ⟨by rw [hyb]; exact blk_new w _⟩
  have HC := Aside0.mk (blk_alloc HC0.out (.cells #[.int .u64 0, .int .u64 0, .int .i64 0, .int .i64 0, .slice none 0 0] 65))
  have HW0 := Aside0.mk (below_alloc (Below.refl w.heap.size w) (.cells #[.int .u64 0, .int .u64 0, .int .i64 0, .int .i64 0, .slice none 0 0] 65))
  have GE := Aside0.mk (cell_below GE0.out HW0.out)
  rw [← hyb]
  clear HC0 hyb
  generalize w.alloc (.cells #[.int .u64 0, .int .u64 0, .int .i64 0, .int .i64 0, .slice none 0 0] 65) = wz at HY0 HC HW0 GE ⊢
  have HB := Aside0.mk (Below.refl wz.heap.size wz)
  obtain ⟨w4, hw4⟩ : ∃ w4, w4 = wz := ⟨_, rfl⟩
  rw [← hw4]
  have n1_ : Aside0 (Below wz.heap.size wz w4) := ⟨by rw [hw4]; exact HB.out⟩
  clear HB hw4
  have HB := n1_
  clear n1_
  refine start_ (n := 21) (S := fun _ => True) (ds := []) #[false, false, false, false, false, false, false, false, false, false, false, false, false, false, false, false, false, false, false, false, false] (by kernel_rfl) rfl rfl trivial (fun hHeld => ?_)
  refine with_tabW log_read.R2.tab log_read.R2.bits (fun HT_ HW_ => ?_)
  have n1_ := Aside0.mk (below_drew1 HB.out)
  clear HB
  have HB := n1_
  clear n1_
  generalize w4.drew = w4 at HB hHeld ⊢
  refine join_ (σ := Nat) 1 #[true, true, true, true, true, true, true, true, true, true, true, true, true, true, true, true, true, true, true, true, false] (fun xb => [(8, (.slice (some ⟨c, 0, none⟩) s s)), (9, .slice (some ⟨c, 0, none⟩) 8 s), (10, .int .u64 m), (11, (.slice (some ⟨c, 0, none⟩) s s)), (12, .slice (some ⟨c, 8, none⟩) 8 (s - 8)), (13, .int .u64 r), (14, (.slice (some ⟨c, 0, none⟩) s s)), (15, .slice (some ⟨c, 16, none⟩) 4 (s - 16)), (16, .int .u64 ln), (17, .int .i64 (wrap64 ln)), (18, (.slice (some ⟨c, 0, none⟩) s s)), (19, .slice (some ⟨c, 20, none⟩) 4 (s - 20)), (20, .int .u64 i), (21, .int .i64 (wrap64 i)), (22, (.slice (some ⟨c, 0, none⟩) s s)), (23, .int .i64 (s : Int)), (24, .int .i64 (wrap64 ((s : Int) - 12))), (25, .slice (some ⟨c, 24, none⟩) (s - 36) (s - 24)), (26, .agg #[.int .u64 m, .int .u64 r, .int .i64 ln, .int .i64 i, .slice (some ⟨c, 24, none⟩) (s - 36) (s - 24)]), (5, .pointer (some ⟨xb, 0, none⟩))]) (fun xb w' => w'.heap[xb]? = some (.cells #[.int .u64 0, .int .u64 0, .int .i64 0, .int .i64 0, .slice none 0 0] 65 (0, 0)) ∧ Below wz.heap.size wz w' ∧ wz.heap.size ≤ xb) ?_ ?_
  rotate_left
  · intro hCont
    refine pure_ (i := 0) (N := some 8) (v := ?_) (a' := ?_) #[true, false, false, false, false, false, false, false, false, false, false, false, false, false, false, false, false, false, false, false, false] rfl rfl (any_of HT_.out (by kernel_rfl)) (fun _ _ _ h => h) (Or.inl ⟨by rfl, ?_⟩) ?_ ?_
    rotate_left
    · intro w'
      go_simp
      with_reducible rfl
    rotate_left
    · simp only [Act.put, List.setIfInBounds_toArray, List.set_cons_zero, List.set_cons_succ, i64_w, i32_w]
      rfl
    refine pure_ (i := 1) (N := some 9) (v := ?_) (a' := ?_) #[true, true, false, false, false, false, false, false, false, false, false, false, false, false, false, false, false, false, false, false, false] rfl rfl (any_of HT_.out (by kernel_rfl)) (fun _ _ _ h => h) (Or.inl ⟨by rfl, ?_⟩) ?_ ?_
    rotate_left
    · intro w'
      go_simp
      with_reducible rfl
    rotate_left
    · simp only [Act.put, List.setIfInBounds_toArray, List.set_cons_zero, List.set_cons_succ, i64_w, i32_w]
      rfl
    refine pure_ (i := 3) (N := some 11) (v := ?_) (a' := ?_) #[true, true, false, true, false, false, false, false, false, false, false, false, false, false, false, false, false, false, false, false, false] rfl rfl (any_of HT_.out (by kernel_rfl)) (fun _ _ _ h => h) (Or.inl ⟨by rfl, ?_⟩) ?_ ?_
    rotate_left
    · intro w'
      go_simp
      with_reducible rfl
    rotate_left
    · simp only [Act.put, List.setIfInBounds_toArray, List.set_cons_zero, List.set_cons_succ, i64_w, i32_w]
      rfl
    refine pure_ (i := 4) (N := some 12) (v := ?_) (a' := ?_) #[true, true, false, true, true, false, false, false, false, false, false, false, false, false, false, false, false, false, false, false, false] rfl rfl (any_of HT_.out (by kernel_rfl)) (fun _ _ _ h => h) (Or.inl ⟨by rfl, ?_⟩) ?_ ?_
    rotate_left
    · intro w'
      go_simp
      with_reducible rfl
    rotate_left
    · simp only [Act.put, List.setIfInBounds_toArray, List.set_cons_zero, List.set_cons_succ, i64_w, i32_w]
      rfl
    refine pure_ (i := 6) (N := some 14) (v := ?_) (a' := ?_) #[true, true, false, true, true, false, true, false, false, false, false, false, false, false, false, false, false, false, false, false, false] rfl rfl (any_of HT_.out (by kernel_rfl)) (fun _ _ _ h => h) (Or.inl ⟨by rfl, ?_⟩) ?_ ?_
    rotate_left
    · intro w'
      go_simp
      with_reducible rfl
    rotate_left
    · simp only [Act.put, List.setIfInBounds_toArray, List.set_cons_zero, List.set_cons_succ, i64_w, i32_w]
      rfl
    refine pure_ (i := 7) (N := some 15) (v := ?_) (a' := ?_) #[true, true, false, true, true, false, true, true, false, false, false, false, false, false, false, false, false, false, false, false, false] rfl rfl (any_of HT_.out (by kernel_rfl)) (fun _ _ _ h => h) (Or.inl ⟨by rfl, ?_⟩) ?_ ?_
    rotate_left
    · intro w'
      go_simp
      with_reducible rfl
    rotate_left
    · simp only [Act.put, List.setIfInBounds_toArray, List.set_cons_zero, List.set_cons_succ, i64_w, i32_w]
      rfl
    refine pure_ (i := 10) (N := some 18) (v := ?_) (a' := ?_) #[true, true, false, true, true, false, true, true, false, false, true, false, false, false, false, false, false, false, false, false, false] rfl rfl (any_of HT_.out (by kernel_rfl)) (fun _ _ _ h => h) (Or.inl ⟨by rfl, ?_⟩) ?_ ?_
    rotate_left
    · intro w'
      go_simp
      with_reducible rfl
    rotate_left
    · simp only [Act.put, List.setIfInBounds_toArray, List.set_cons_zero, List.set_cons_succ, i64_w, i32_w]
      rfl
    refine pure_ (i := 11) (N := some 19) (v := ?_) (a' := ?_) #[true, true, false, true, true, false, true, true, false, false, true, true, false, false, false, false, false, false, false, false, false] rfl rfl (any_of HT_.out (by kernel_rfl)) (fun _ _ _ h => h) (Or.inl ⟨by rfl, ?_⟩) ?_ ?_
    rotate_left
    · intro w'
      go_simp
      with_reducible rfl
    rotate_left
    · simp only [Act.put, List.setIfInBounds_toArray, List.set_cons_zero, List.set_cons_succ, i64_w, i32_w]
      rfl
    refine pure_ (i := 14) (N := some 22) (v := ?_) (a' := ?_) #[true, true, false, true, true, false, true, true, false, false, true, true, false, false, true, false, false, false, false, false, false] rfl rfl (any_of HT_.out (by kernel_rfl)) (fun _ _ _ h => h) (Or.inl ⟨by rfl, ?_⟩) ?_ ?_
    rotate_left
    · intro w'
      go_simp
      with_reducible rfl
    rotate_left
    · simp only [Act.put, List.setIfInBounds_toArray, List.set_cons_zero, List.set_cons_succ, i64_w, i32_w]
      rfl
    refine pure_ (i := 15) (N := some 23) (v := ?_) (a' := ?_) #[true, true, false, true, true, false, true, true, false, false, true, true, false, false, true, true, false, false, false, false, false] rfl rfl (any_of HT_.out (by kernel_rfl)) (fun _ _ _ h => h) (Or.inl ⟨by rfl, ?_⟩) ?_ ?_
    rotate_left
    · intro w'
      go_simp
      with_reducible rfl
    rotate_left
    · simp only [Act.put, List.setIfInBounds_toArray, List.set_cons_zero, List.set_cons_succ, i64_w, i32_w]
      rfl
    refine pure_ (i := 16) (N := some 24) (v := ?_) (a' := ?_) #[true, true, false, true, true, false, true, true, false, false, true, true, false, false, true, true, true, false, false, false, false] rfl rfl (any_of HT_.out (by kernel_rfl)) (fun _ _ _ h => h) (Or.inl ⟨by rfl, ?_⟩) ?_ ?_
    rotate_left
    · intro w'
      go_simp
      with_reducible rfl
    rotate_left
    · simp only [Act.put, List.setIfInBounds_toArray, List.set_cons_zero, List.set_cons_succ, i64_w, i32_w]
      rfl
    refine pure_ (i := 17) (N := some 25) (v := ?_) (a' := ?_) #[true, true, false, true, true, false, true, true, false, false, true, true, false, false, true, true, true, true, false, false, false] rfl rfl (any_of HT_.out (by kernel_rfl)) (fun _ _ _ h => h) (Or.inl ⟨by rfl, ?_⟩) ?_ ?_
    rotate_left
    · intro w'
      go_simp
      with_reducible rfl
    rotate_left
    · simp only [Act.put, List.setIfInBounds_toArray, List.set_cons_zero, List.set_cons_succ, i64_w, i32_w]
      rfl
    refine two_ (i := 2) (j := 19) (Ni := some 10) (Nj := some 5) #[true, true, true, true, true, false, true, true, false, false, true, true, false, false, true, true, true, true, false, false, false] #[true, true, false, true, true, false, true, true, false, false, true, true, false, false, true, true, true, true, false, true, false] rfl rfl rfl rfl (two_of HT_.out (by kernel_rfl)) (by decide) (by decide) (fun K hK => ?_) (fun K hK => ?_)
    · skip
      refine goes_ Tryd.func31 (by kernel_rfl) rfl #[.slice (some ⟨c, 0, none⟩) 8 s] (by rfl) rfl rfl (by first | rfl | (go_simp; done)) ?_
      refine (lg_getv (blk_below HC.out HB.out) IB.out (by rw [LN.out.1]; have := LN.out; omega) 0 8 s (by rw [LN.out.1]; have := LN.out; omega) (by decide) (by have := LN.out; omega) VM.out).mono ?_
      rintro e w5 ⟨rfl, ⟨nd, rfl⟩⟩
      refine ⟨_, rfl, ?_⟩
      have n1_ := Aside0.mk (pw_below_drewN HB.out nd)
      (try have n2_ := Aside0.mk (blk_drewN HX.out nd))
      clear HB
      (try clear HX)
      have HB := n1_
      (try have HX := n2_)
      clear n1_
      (try clear n2_)
      first | generalize w4.drewN nd = w4 at HB HX ⊢ | generalize w4.drewN nd = w4 at HB ⊢
      refine hK.out _ _ trivial (fun hHeld => ?_)
      clear hK K
      refine norm_ (a' := ?_) ?_ ?_
      rotate_left
      · show Act.put _ (some 10) _ = _
        simp only [Act.put, List.setIfInBounds_toArray, List.set_cons_zero, List.set_cons_succ, i64_w, i32_w]
        rfl
      refine two_ (i := 5) (j := 19) (Ni := some 13) (Nj := some 5) #[true, true, true, true, true, true, true, true, false, false, true, true, false, false, true, true, true, true, false, false, false] #[true, true, true, true, true, false, true, true, false, false, true, true, false, false, true, true, true, true, false, true, false] rfl rfl rfl rfl (two_of HT_.out (by kernel_rfl)) (by decide) (by decide) (fun K hK => ?_) (fun K hK => ?_)
      · skip
        refine goes_ Tryd.func31 (by kernel_rfl) rfl #[.slice (some ⟨c, 8, none⟩) 8 (s - 8)] (by rfl) rfl rfl (by first | rfl | (go_simp; done)) ?_
        refine (lg_getv (blk_below HC.out HB.out) IB.out (by rw [LN.out.1]; have := LN.out; omega) 8 8 (s - 8) (by rw [LN.out.1]; have := LN.out; omega) (by decide) (by have := LN.out; omega) VR.out).mono ?_
        rintro e w5 ⟨rfl, ⟨nd, rfl⟩⟩
        refine ⟨_, rfl, ?_⟩
        have n1_ := Aside0.mk (pw_below_drewN HB.out nd)
        (try have n2_ := Aside0.mk (blk_drewN HX.out nd))
        clear HB
        (try clear HX)
        have HB := n1_
        (try have HX := n2_)
        clear n1_
        (try clear n2_)
        first | generalize w4.drewN nd = w4 at HB HX ⊢ | generalize w4.drewN nd = w4 at HB ⊢
        refine hK.out _ _ trivial (fun hHeld => ?_)
        clear hK K
        refine norm_ (a' := ?_) ?_ ?_
        rotate_left
        · show Act.put _ (some 13) _ = _
          simp only [Act.put, List.setIfInBounds_toArray, List.set_cons_zero, List.set_cons_succ, i64_w, i32_w]
          rfl
        refine two_ (i := 8) (j := 19) (Ni := some 16) (Nj := some 5) #[true, true, true, true, true, true, true, true, true, false, true, true, false, false, true, true, true, true, false, false, false] #[true, true, true, true, true, true, true, true, false, false, true, true, false, false, true, true, true, true, false, true, false] rfl rfl rfl rfl (two_of HT_.out (by kernel_rfl)) (by decide) (by decide) (fun K hK => ?_) (fun K hK => ?_)
        · skip
          refine goes_ Tryd.func31 (by kernel_rfl) rfl #[.slice (some ⟨c, 16, none⟩) 4 (s - 16)] (by rfl) rfl rfl (by first | rfl | (go_simp; done)) ?_
          refine (lg_getv (blk_below HC.out HB.out) IB.out (by rw [LN.out.1]; have := LN.out; omega) 16 4 (s - 16) (by rw [LN.out.1]; have := LN.out; omega) (by decide) (by have := LN.out; omega) VL.out).mono ?_
          rintro e w5 ⟨rfl, ⟨nd, rfl⟩⟩
          refine ⟨_, rfl, ?_⟩
          have n1_ := Aside0.mk (pw_below_drewN HB.out nd)
          (try have n2_ := Aside0.mk (blk_drewN HX.out nd))
          clear HB
          (try clear HX)
          have HB := n1_
          (try have HX := n2_)
          clear n1_
          (try clear n2_)
          first | generalize w4.drewN nd = w4 at HB HX ⊢ | generalize w4.drewN nd = w4 at HB ⊢
          refine hK.out _ _ trivial (fun hHeld => ?_)
          clear hK K
          refine norm_ (a' := ?_) ?_ ?_
          rotate_left
          · show Act.put _ (some 16) _ = _
            simp only [Act.put, List.setIfInBounds_toArray, List.set_cons_zero, List.set_cons_succ, i64_w, i32_w]
            rfl
          refine pure_ (i := 9) (N := some 17) (v := ?_) (a' := ?_) #[true, true, true, true, true, true, true, true, true, true, true, true, false, false, true, true, true, true, false, false, false] rfl rfl (any_of HT_.out (by kernel_rfl)) (fun _ _ _ h => h) (Or.inl ⟨by rfl, ?_⟩) ?_ ?_
          rotate_left
          · intro w'
            go_simp
            with_reducible rfl
          rotate_left
          · simp only [Act.put, List.setIfInBounds_toArray, List.set_cons_zero, List.set_cons_succ, i64_w, i32_w]
            rfl
          refine two_ (i := 12) (j := 19) (Ni := some 20) (Nj := some 5) #[true, true, true, true, true, true, true, true, true, true, true, true, true, false, true, true, true, true, false, false, false] #[true, true, true, true, true, true, true, true, true, true, true, true, false, false, true, true, true, true, false, true, false] rfl rfl rfl rfl (two_of HT_.out (by kernel_rfl)) (by decide) (by decide) (fun K hK => ?_) (fun K hK => ?_)
          · skip
            refine goes_ Tryd.func31 (by kernel_rfl) rfl #[.slice (some ⟨c, 20, none⟩) 4 (s - 20)] (by rfl) rfl rfl (by first | rfl | (go_simp; done)) ?_
            refine (lg_getv (blk_below HC.out HB.out) IB.out (by rw [LN.out.1]; have := LN.out; omega) 20 4 (s - 20) (by rw [LN.out.1]; have := LN.out; omega) (by decide) (by have := LN.out; omega) VI.out).mono ?_
            rintro e w5 ⟨rfl, ⟨nd, rfl⟩⟩
            refine ⟨_, rfl, ?_⟩
            have n1_ := Aside0.mk (pw_below_drewN HB.out nd)
            (try have n2_ := Aside0.mk (blk_drewN HX.out nd))
            clear HB
            (try clear HX)
            have HB := n1_
            (try have HX := n2_)
            clear n1_
            (try clear n2_)
            first | generalize w4.drewN nd = w4 at HB HX ⊢ | generalize w4.drewN nd = w4 at HB ⊢
            refine hK.out _ _ trivial (fun hHeld => ?_)
            clear hK K
            refine norm_ (a' := ?_) ?_ ?_
            rotate_left
            · show Act.put _ (some 20) _ = _
              simp only [Act.put, List.setIfInBounds_toArray, List.set_cons_zero, List.set_cons_succ, i64_w, i32_w]
              rfl
            refine pure_ (i := 13) (N := some 21) (v := ?_) (a' := ?_) #[true, true, true, true, true, true, true, true, true, true, true, true, true, true, true, true, true, true, false, false, false] rfl rfl (any_of HT_.out (by kernel_rfl)) (fun _ _ _ h => h) (Or.inl ⟨by rfl, ?_⟩) ?_ ?_
            rotate_left
            · intro w'
              go_simp
              with_reducible rfl
            rotate_left
            · simp only [Act.put, List.setIfInBounds_toArray, List.set_cons_zero, List.set_cons_succ, i64_w, i32_w]
              rfl
            refine pure_ (i := 18) (N := some 26) (v := ?_) (a' := ?_) #[true, true, true, true, true, true, true, true, true, true, true, true, true, true, true, true, true, true, true, false, false] rfl rfl (any_of HT_.out (by kernel_rfl)) (fun _ _ _ h => h) (Or.inl ⟨by rfl, ?_⟩) ?_ ?_
            rotate_left
            · intro w'
              go_simp
              with_reducible rfl
            rotate_left
            · simp only [Act.put, List.setIfInBounds_toArray, List.set_cons_zero, List.set_cons_succ, i64_w, i32_w]
              rfl
            refine one_ (i := 19) (N := some 5) #[true, true, true, true, true, true, true, true, true, true, true, true, true, true, true, true, true, true, true, true, false] rfl rfl (one_of HT_.out (by kernel_rfl)) (by decide) (fun K hK => ?_)
            refine value_ (v := .pointer (some ⟨w4.heap.size, 0, none⟩)) (w1 := w4.alloc (.cells #[.int .u64 0, .int .u64 0, .int .i64 0, .int .i64 0, .slice none 0 0] 65)) (by rfl) rfl (by first | (go_simp; done) | (go_simp; rfl)) ?_
            obtain ⟨xb, hxb⟩ : ∃ xb, xb = w4.heap.size := ⟨_, rfl⟩
            have XB := Aside0.mk (show wz.heap.size ≤ xb by rw [hxb]; exact below_size HB.out)
            have HX : Aside0 ((w4.alloc (.cells #[.int .u64 0, .int .u64 0, .int .i64 0, .int .i64 0, .slice none 0 0] 65)).heap[xb]? = some (.cells #[.int .u64 0, .int .u64 0, .int .i64 0, .int .i64 0, .slice none 0 0] 65 (0, 0))) := ⟨by rw [hxb]; exact blk_new _ _⟩
            have n1_ := Aside0.mk (below_alloc HB.out (.cells #[.int .u64 0, .int .u64 0, .int .i64 0, .int .i64 0, .slice none 0 0] 65))
            rw [← hxb]
            clear HB hxb
            have HB := n1_
            clear n1_
            generalize w4.alloc (.cells #[.int .u64 0, .int .u64 0, .int .i64 0, .int .i64 0, .slice none 0 0] 65) = w4 at HB HX ⊢
            refine hK.out _ _ trivial (fun hHeld => ?_)
            clear hK K
            refine norm_ (a' := ?_) ?_ ?_
            rotate_left
            · show Act.put _ (some 5) _ = _
              simp only [Act.put, List.setIfInBounds_toArray, List.set_cons_zero, List.set_cons_succ, i64_w, i32_w]
              rfl
            exact norm_ (by first | (simp only [putAll, Act.put, List.setIfInBounds_toArray, List.set_cons_zero, List.set_cons_succ]; done) | (simp only [putAll, Act.put, List.setIfInBounds_toArray, List.set_cons_zero, List.set_cons_succ]; rfl)) (hCont xb _ ⟨HX.out, HB.out, XB.out⟩)
          · skip
            refine value_ (v := .pointer (some ⟨w4.heap.size, 0, none⟩)) (w1 := w4.alloc (.cells #[.int .u64 0, .int .u64 0, .int .i64 0, .int .i64 0, .slice none 0 0] 65)) (by rfl) rfl (by first | (go_simp; done) | (go_simp; rfl)) ?_
            obtain ⟨xb, hxb⟩ : ∃ xb, xb = w4.heap.size := ⟨_, rfl⟩
            have XB := Aside0.mk (show wz.heap.size ≤ xb by rw [hxb]; exact below_size HB.out)
            have HX : Aside0 ((w4.alloc (.cells #[.int .u64 0, .int .u64 0, .int .i64 0, .int .i64 0, .slice none 0 0] 65)).heap[xb]? = some (.cells #[.int .u64 0, .int .u64 0, .int .i64 0, .int .i64 0, .slice none 0 0] 65 (0, 0))) := ⟨by rw [hxb]; exact blk_new _ _⟩
            have n1_ := Aside0.mk (below_alloc HB.out (.cells #[.int .u64 0, .int .u64 0, .int .i64 0, .int .i64 0, .slice none 0 0] 65))
            rw [← hxb]
            clear HB hxb
            have HB := n1_
            clear n1_
            generalize w4.alloc (.cells #[.int .u64 0, .int .u64 0, .int .i64 0, .int .i64 0, .slice none 0 0] 65) = w4 at HB HX ⊢
            refine hK.out _ _ trivial (fun hHeld => ?_)
            clear hK K
            refine norm_ (a' := ?_) ?_ ?_
            rotate_left
            · show Act.put _ (some 5) _ = _
              simp only [Act.put, List.setIfInBounds_toArray, List.set_cons_zero, List.set_cons_succ, i64_w, i32_w]
              rfl
            refine one_ (i := 12) (N := some 20) #[true, true, true, true, true, true, true, true, true, true, true, true, true, false, true, true, true, true, false, true, false] rfl rfl (one_of HT_.out (by kernel_rfl)) (by decide) (fun K hK => ?_)
            refine goes_ Tryd.func31 (by kernel_rfl) rfl #[.slice (some ⟨c, 20, none⟩) 4 (s - 20)] (by rfl) rfl rfl (by first | rfl | (go_simp; done)) ?_
            refine (lg_getv (blk_below HC.out HB.out) IB.out (by rw [LN.out.1]; have := LN.out; omega) 20 4 (s - 20) (by rw [LN.out.1]; have := LN.out; omega) (by decide) (by have := LN.out; omega) VI.out).mono ?_
            rintro e w5 ⟨rfl, ⟨nd, rfl⟩⟩
            refine ⟨_, rfl, ?_⟩
            have n1_ := Aside0.mk (pw_below_drewN HB.out nd)
            (try have n2_ := Aside0.mk (blk_drewN HX.out nd))
            clear HB
            (try clear HX)
            have HB := n1_
            (try have HX := n2_)
            clear n1_
            (try clear n2_)
            first | generalize w4.drewN nd = w4 at HB HX ⊢ | generalize w4.drewN nd = w4 at HB ⊢
            refine hK.out _ _ trivial (fun hHeld => ?_)
            clear hK K
            refine norm_ (a' := ?_) ?_ ?_
            rotate_left
            · show Act.put _ (some 20) _ = _
              simp only [Act.put, List.setIfInBounds_toArray, List.set_cons_zero, List.set_cons_succ, i64_w, i32_w]
              rfl
            refine pure_ (i := 13) (N := some 21) (v := ?_) (a' := ?_) #[true, true, true, true, true, true, true, true, true, true, true, true, true, true, true, true, true, true, false, true, false] rfl rfl (any_of HT_.out (by kernel_rfl)) (fun _ _ _ h => h) (Or.inl ⟨by rfl, ?_⟩) ?_ ?_
            rotate_left
            · intro w'
              go_simp
              with_reducible rfl
            rotate_left
            · simp only [Act.put, List.setIfInBounds_toArray, List.set_cons_zero, List.set_cons_succ, i64_w, i32_w]
              rfl
            refine pure_ (i := 18) (N := some 26) (v := ?_) (a' := ?_) #[true, true, true, true, true, true, true, true, true, true, true, true, true, true, true, true, true, true, true, true, false] rfl rfl (any_of HT_.out (by kernel_rfl)) (fun _ _ _ h => h) (Or.inl ⟨by rfl, ?_⟩) ?_ ?_
            rotate_left
            · intro w'
              go_simp
              with_reducible rfl
            rotate_left
            · simp only [Act.put, List.setIfInBounds_toArray, List.set_cons_zero, List.set_cons_succ, i64_w, i32_w]
              rfl
            exact norm_ (by first | (simp only [putAll, Act.put, List.setIfInBounds_toArray, List.set_cons_zero, List.set_cons_succ]; done) | (simp only [putAll, Act.put, List.setIfInBounds_toArray, List.set_cons_zero, List.set_cons_succ]; rfl)) (hCont xb _ ⟨HX.out, HB.out, XB.out⟩)
        · skip
          refine value_ (v := .pointer (some ⟨w4.heap.size, 0, none⟩)) (w1 := w4.alloc (.cells #[.int .u64 0, .int .u64 0, .int .i64 0, .int .i64 0, .slice none 0 0] 65)) (by rfl) rfl (by first | (go_simp; done) | (go_simp; rfl)) ?_
          obtain ⟨xb, hxb⟩ : ∃ xb, xb = w4.heap.size := ⟨_, rfl⟩
          have XB := Aside0.mk (show wz.heap.size ≤ xb by rw [hxb]; exact below_size HB.out)
          have HX : Aside0 ((w4.alloc (.cells #[.int .u64 0, .int .u64 0, .int .i64 0, .int .i64 0, .slice none 0 0] 65)).heap[xb]? = some (.cells #[.int .u64 0, .int .u64 0, .int .i64 0, .int .i64 0, .slice none 0 0] 65 (0, 0))) := ⟨by rw [hxb]; exact blk_new _ _⟩
          have n1_ := Aside0.mk (below_alloc HB.out (.cells #[.int .u64 0, .int .u64 0, .int .i64 0, .int .i64 0, .slice none 0 0] 65))
          rw [← hxb]
          clear HB hxb
          have HB := n1_
          clear n1_
          generalize w4.alloc (.cells #[.int .u64 0, .int .u64 0, .int .i64 0, .int .i64 0, .slice none 0 0] 65) = w4 at HB HX ⊢
          refine hK.out _ _ trivial (fun hHeld => ?_)
          clear hK K
          refine norm_ (a' := ?_) ?_ ?_
          rotate_left
          · show Act.put _ (some 5) _ = _
            simp only [Act.put, List.setIfInBounds_toArray, List.set_cons_zero, List.set_cons_succ, i64_w, i32_w]
            rfl
          refine one_ (i := 8) (N := some 16) #[true, true, true, true, true, true, true, true, true, false, true, true, false, false, true, true, true, true, false, true, false] rfl rfl (one_of HT_.out (by kernel_rfl)) (by decide) (fun K hK => ?_)
          refine goes_ Tryd.func31 (by kernel_rfl) rfl #[.slice (some ⟨c, 16, none⟩) 4 (s - 16)] (by rfl) rfl rfl (by first | rfl | (go_simp; done)) ?_
          refine (lg_getv (blk_below HC.out HB.out) IB.out (by rw [LN.out.1]; have := LN.out; omega) 16 4 (s - 16) (by rw [LN.out.1]; have := LN.out; omega) (by decide) (by have := LN.out; omega) VL.out).mono ?_
          rintro e w5 ⟨rfl, ⟨nd, rfl⟩⟩
          refine ⟨_, rfl, ?_⟩
          have n1_ := Aside0.mk (pw_below_drewN HB.out nd)
          (try have n2_ := Aside0.mk (blk_drewN HX.out nd))
          clear HB
          (try clear HX)
          have HB := n1_
          (try have HX := n2_)
          clear n1_
          (try clear n2_)
          first | generalize w4.drewN nd = w4 at HB HX ⊢ | generalize w4.drewN nd = w4 at HB ⊢
          refine hK.out _ _ trivial (fun hHeld => ?_)
          clear hK K
          refine norm_ (a' := ?_) ?_ ?_
          rotate_left
          · show Act.put _ (some 16) _ = _
            simp only [Act.put, List.setIfInBounds_toArray, List.set_cons_zero, List.set_cons_succ, i64_w, i32_w]
            rfl
          refine pure_ (i := 9) (N := some 17) (v := ?_) (a' := ?_) #[true, true, true, true, true, true, true, true, true, true, true, true, false, false, true, true, true, true, false, true, false] rfl rfl (any_of HT_.out (by kernel_rfl)) (fun _ _ _ h => h) (Or.inl ⟨by rfl, ?_⟩) ?_ ?_
          rotate_left
          · intro w'
            go_simp
            with_reducible rfl
          rotate_left
          · simp only [Act.put, List.setIfInBounds_toArray, List.set_cons_zero, List.set_cons_succ, i64_w, i32_w]
            rfl
          refine one_ (i := 12) (N := some 20) #[true, true, true, true, true, true, true, true, true, true, true, true, true, false, true, true, true, true, false, true, false] rfl rfl (one_of HT_.out (by kernel_rfl)) (by decide) (fun K hK => ?_)
          refine goes_ Tryd.func31 (by kernel_rfl) rfl #[.slice (some ⟨c, 20, none⟩) 4 (s - 20)] (by rfl) rfl rfl (by first | rfl | (go_simp; done)) ?_
          refine (lg_getv (blk_below HC.out HB.out) IB.out (by rw [LN.out.1]; have := LN.out; omega) 20 4 (s - 20) (by rw [LN.out.1]; have := LN.out; omega) (by decide) (by have := LN.out; omega) VI.out).mono ?_
          rintro e w5 ⟨rfl, ⟨nd, rfl⟩⟩
          refine ⟨_, rfl, ?_⟩
          have n1_ := Aside0.mk (pw_below_drewN HB.out nd)
          (try have n2_ := Aside0.mk (blk_drewN HX.out nd))
          clear HB
          (try clear HX)
          have HB := n1_
          (try have HX := n2_)
          clear n1_
          (try clear n2_)
          first | generalize w4.drewN nd = w4 at HB HX ⊢ | generalize w4.drewN nd = w4 at HB ⊢
          refine hK.out _ _ trivial (fun hHeld => ?_)
          clear hK K
          refine norm_ (a' := ?_) ?_ ?_
          rotate_left
          · show Act.put _ (some 20) _ = _
            simp only [Act.put, List.setIfInBounds_toArray, List.set_cons_zero, List.set_cons_succ, i64_w, i32_w]
            rfl
          refine pure_ (i := 13) (N := some 21) (v := ?_) (a' := ?_) #[true, true, true, true, true, true, true, true, true, true, true, true, true, true, true, true, true, true, false, true, false] rfl rfl (any_of HT_.out (by kernel_rfl)) (fun _ _ _ h => h) (Or.inl ⟨by rfl, ?_⟩) ?_ ?_
          rotate_left
          · intro w'
            go_simp
            with_reducible rfl
          rotate_left
          · simp only [Act.put, List.setIfInBounds_toArray, List.set_cons_zero, List.set_cons_succ, i64_w, i32_w]
            rfl
          refine pure_ (i := 18) (N := some 26) (v := ?_) (a' := ?_) #[true, true, true, true, true, true, true, true, true, true, true, true, true, true, true, true, true, true, true, true, false] rfl rfl (any_of HT_.out (by kernel_rfl)) (fun _ _ _ h => h) (Or.inl ⟨by rfl, ?_⟩) ?_ ?_
          rotate_left
          · intro w'
            go_simp
            with_reducible rfl
          rotate_left
          · simp only [Act.put, List.setIfInBounds_toArray, List.set_cons_zero, List.set_cons_succ, i64_w, i32_w]
            rfl
          exact norm_ (by first | (simp only [putAll, Act.put, List.setIfInBounds_toArray, List.set_cons_zero, List.set_cons_succ]; done) | (simp only [putAll, Act.put, List.setIfInBounds_toArray, List.set_cons_zero, List.set_cons_succ]; rfl)) (hCont xb _ ⟨HX.out, HB.out, XB.out⟩)
      · skip
        refine value_ (v := .pointer (some ⟨w4.heap.size, 0, none⟩)) (w1 := w4.alloc (.cells #[.int .u64 0, .int .u64 0, .int .i64 0, .int .i64 0, .slice none 0 0] 65)) (by rfl) rfl (by first | (go_simp; done) | (go_simp; rfl)) ?_
        obtain ⟨xb, hxb⟩ : ∃ xb, xb = w4.heap.size := ⟨_, rfl⟩
        have XB := Aside0.mk (show wz.heap.size ≤ xb by rw [hxb]; exact below_size HB.out)
        have HX : Aside0 ((w4.alloc (.cells #[.int .u64 0, .int .u64 0, .int .i64 0, .int .i64 0, .slice none 0 0] 65)).heap[xb]? = some (.cells #[.int .u64 0, .int .u64 0, .int .i64 0, .int .i64 0, .slice none 0 0] 65 (0, 0))) := ⟨by rw [hxb]; exact blk_new _ _⟩
        have n1_ := Aside0.mk (below_alloc HB.out (.cells #[.int .u64 0, .int .u64 0, .int .i64 0, .int .i64 0, .slice none 0 0] 65))
        rw [← hxb]
        clear HB hxb
        have HB := n1_
        clear n1_
        generalize w4.alloc (.cells #[.int .u64 0, .int .u64 0, .int .i64 0, .int .i64 0, .slice none 0 0] 65) = w4 at HB HX ⊢
        refine hK.out _ _ trivial (fun hHeld => ?_)
        clear hK K
        refine norm_ (a' := ?_) ?_ ?_
        rotate_left
        · show Act.put _ (some 5) _ = _
          simp only [Act.put, List.setIfInBounds_toArray, List.set_cons_zero, List.set_cons_succ, i64_w, i32_w]
          rfl
        refine one_ (i := 5) (N := some 13) #[true, true, true, true, true, true, true, true, false, false, true, true, false, false, true, true, true, true, false, true, false] rfl rfl (one_of HT_.out (by kernel_rfl)) (by decide) (fun K hK => ?_)
        refine goes_ Tryd.func31 (by kernel_rfl) rfl #[.slice (some ⟨c, 8, none⟩) 8 (s - 8)] (by rfl) rfl rfl (by first | rfl | (go_simp; done)) ?_
        refine (lg_getv (blk_below HC.out HB.out) IB.out (by rw [LN.out.1]; have := LN.out; omega) 8 8 (s - 8) (by rw [LN.out.1]; have := LN.out; omega) (by decide) (by have := LN.out; omega) VR.out).mono ?_
        rintro e w5 ⟨rfl, ⟨nd, rfl⟩⟩
        refine ⟨_, rfl, ?_⟩
        have n1_ := Aside0.mk (pw_below_drewN HB.out nd)
        (try have n2_ := Aside0.mk (blk_drewN HX.out nd))
        clear HB
        (try clear HX)
        have HB := n1_
        (try have HX := n2_)
        clear n1_
        (try clear n2_)
        first | generalize w4.drewN nd = w4 at HB HX ⊢ | generalize w4.drewN nd = w4 at HB ⊢
        refine hK.out _ _ trivial (fun hHeld => ?_)
        clear hK K
        refine norm_ (a' := ?_) ?_ ?_
        rotate_left
        · show Act.put _ (some 13) _ = _
          simp only [Act.put, List.setIfInBounds_toArray, List.set_cons_zero, List.set_cons_succ, i64_w, i32_w]
          rfl
        refine one_ (i := 8) (N := some 16) #[true, true, true, true, true, true, true, true, true, false, true, true, false, false, true, true, true, true, false, true, false] rfl rfl (one_of HT_.out (by kernel_rfl)) (by decide) (fun K hK => ?_)
        refine goes_ Tryd.func31 (by kernel_rfl) rfl #[.slice (some ⟨c, 16, none⟩) 4 (s - 16)] (by rfl) rfl rfl (by first | rfl | (go_simp; done)) ?_
        refine (lg_getv (blk_below HC.out HB.out) IB.out (by rw [LN.out.1]; have := LN.out; omega) 16 4 (s - 16) (by rw [LN.out.1]; have := LN.out; omega) (by decide) (by have := LN.out; omega) VL.out).mono ?_
        rintro e w5 ⟨rfl, ⟨nd, rfl⟩⟩
        refine ⟨_, rfl, ?_⟩
        have n1_ := Aside0.mk (pw_below_drewN HB.out nd)
        (try have n2_ := Aside0.mk (blk_drewN HX.out nd))
        clear HB
        (try clear HX)
        have HB := n1_
        (try have HX := n2_)
        clear n1_
        (try clear n2_)
        first | generalize w4.drewN nd = w4 at HB HX ⊢ | generalize w4.drewN nd = w4 at HB ⊢
        refine hK.out _ _ trivial (fun hHeld => ?_)
        clear hK K
        refine norm_ (a' := ?_) ?_ ?_
        rotate_left
        · show Act.put _ (some 16) _ = _
          simp only [Act.put, List.setIfInBounds_toArray, List.set_cons_zero, List.set_cons_succ, i64_w, i32_w]
          rfl
        refine pure_ (i := 9) (N := some 17) (v := ?_) (a' := ?_) #[true, true, true, true, true, true, true, true, true, true, true, true, false, false, true, true, true, true, false, true, false] rfl rfl (any_of HT_.out (by kernel_rfl)) (fun _ _ _ h => h) (Or.inl ⟨by rfl, ?_⟩) ?_ ?_
        rotate_left
        · intro w'
          go_simp
          with_reducible rfl
        rotate_left
        · simp only [Act.put, List.setIfInBounds_toArray, List.set_cons_zero, List.set_cons_succ, i64_w, i32_w]
          rfl
        refine one_ (i := 12) (N := some 20) #[true, true, true, true, true, true, true, true, true, true, true, true, true, false, true, true, true, true, false, true, false] rfl rfl (one_of HT_.out (by kernel_rfl)) (by decide) (fun K hK => ?_)
        refine goes_ Tryd.func31 (by kernel_rfl) rfl #[.slice (some ⟨c, 20, none⟩) 4 (s - 20)] (by rfl) rfl rfl (by first | rfl | (go_simp; done)) ?_
        refine (lg_getv (blk_below HC.out HB.out) IB.out (by rw [LN.out.1]; have := LN.out; omega) 20 4 (s - 20) (by rw [LN.out.1]; have := LN.out; omega) (by decide) (by have := LN.out; omega) VI.out).mono ?_
        rintro e w5 ⟨rfl, ⟨nd, rfl⟩⟩
        refine ⟨_, rfl, ?_⟩
        have n1_ := Aside0.mk (pw_below_drewN HB.out nd)
        (try have n2_ := Aside0.mk (blk_drewN HX.out nd))
        clear HB
        (try clear HX)
        have HB := n1_
        (try have HX := n2_)
        clear n1_
        (try clear n2_)
        first | generalize w4.drewN nd = w4 at HB HX ⊢ | generalize w4.drewN nd = w4 at HB ⊢
        refine hK.out _ _ trivial (fun hHeld => ?_)
        clear hK K
        refine norm_ (a' := ?_) ?_ ?_
        rotate_left
        · show Act.put _ (some 20) _ = _
          simp only [Act.put, List.setIfInBounds_toArray, List.set_cons_zero, List.set_cons_succ, i64_w, i32_w]
          rfl
        refine pure_ (i := 13) (N := some 21) (v := ?_) (a' := ?_) #[true, true, true, true, true, true, true, true, true, true, true, true, true, true, true, true, true, true, false, true, false] rfl rfl (any_of HT_.out (by kernel_rfl)) (fun _ _ _ h => h) (Or.inl ⟨by rfl, ?_⟩) ?_ ?_
        rotate_left
        · intro w'
          go_simp
          with_reducible rfl
        rotate_left
        · simp only [Act.put, List.setIfInBounds_toArray, List.set_cons_zero, List.set_cons_succ, i64_w, i32_w]
          rfl
        refine pure_ (i := 18) (N := some 26) (v := ?_) (a' := ?_) #[true, true, true, true, true, true, true, true, true, true, true, true, true, true, true, true, true, true, true, true, false] rfl rfl (any_of HT_.out (by kernel_rfl)) (fun _ _ _ h => h) (Or.inl ⟨by rfl, ?_⟩) ?_ ?_
        rotate_left
        · intro w'
          go_simp
          with_reducible rfl
        rotate_left
        · simp only [Act.put, List.setIfInBounds_toArray, List.set_cons_zero, List.set_cons_succ, i64_w, i32_w]
          rfl
        exact norm_ (by first | (simp only [putAll, Act.put, List.setIfInBounds_toArray, List.set_cons_zero, List.set_cons_succ]; done) | (simp only [putAll, Act.put, List.setIfInBounds_toArray, List.set_cons_zero, List.set_cons_succ]; rfl)) (hCont xb _ ⟨HX.out, HB.out, XB.out⟩)
    · skip
      refine value_ (v := .pointer (some ⟨w4.heap.size, 0, none⟩)) (w1 := w4.alloc (.cells #[.int .u64 0, .int .u64 0, .int .i64 0, .int .i64 0, .slice none 0 0] 65)) (by rfl) rfl (by first | (go_simp; done) | (go_simp; rfl)) ?_
      obtain ⟨xb, hxb⟩ : ∃ xb, xb = w4.heap.size := ⟨_, rfl⟩
      have XB := Aside0.mk (show wz.heap.size ≤ xb by rw [hxb]; exact below_size HB.out)
      have HX : Aside0 ((w4.alloc (.cells #[.int .u64 0, .int .u64 0, .int .i64 0, .int .i64 0, .slice none 0 0] 65)).heap[xb]? = some (.cells #[.int .u64 0, .int .u64 0, .int .i64 0, .int .i64 0, .slice none 0 0] 65 (0, 0))) := ⟨by rw [hxb]; exact blk_new _ _⟩
      have n1_ := Aside0.mk (below_alloc HB.out (.cells #[.int .u64 0, .int .u64 0, .int .i64 0, .int .i64 0, .slice none 0 0] 65))
      rw [← hxb]
      clear HB hxb
      have HB := n1_
      clear n1_
      generalize w4.alloc (.cells #[.int .u64 0, .int .u64 0, .int .i64 0, .int .i64 0, .slice none 0 0] 65) = w4 at HB HX ⊢
      refine hK.out _ _ trivial (fun hHeld => ?_)
      clear hK K
      refine norm_ (a' := ?_) ?_ ?_
      rotate_left
      · show Act.put _ (some 5) _ = _
        simp only [Act.put, List.setIfInBounds_toArray, List.set_cons_zero, List.set_cons_succ, i64_w, i32_w]
        rfl
      refine one_ (i := 2) (N := some 10) #[true, true, true, true, true, false, true, true, false, false, true, true, false, false, true, true, true, true, false, true, false] rfl rfl (one_of HT_.out (by kernel_rfl)) (by decide) (fun K hK => ?_)
      refine goes_ Tryd.func31 (by kernel_rfl) rfl #[.slice (some ⟨c, 0, none⟩) 8 s] (by rfl) rfl rfl (by first | rfl | (go_simp; done)) ?_
      refine (lg_getv (blk_below HC.out HB.out) IB.out (by rw [LN.out.1]; have := LN.out; omega) 0 8 s (by rw [LN.out.1]; have := LN.out; omega) (by decide) (by have := LN.out; omega) VM.out).mono ?_
      rintro e w5 ⟨rfl, ⟨nd, rfl⟩⟩
      refine ⟨_, rfl, ?_⟩
      have n1_ := Aside0.mk (pw_below_drewN HB.out nd)
      (try have n2_ := Aside0.mk (blk_drewN HX.out nd))
      clear HB
      (try clear HX)
      have HB := n1_
      (try have HX := n2_)
      clear n1_
      (try clear n2_)
      first | generalize w4.drewN nd = w4 at HB HX ⊢ | generalize w4.drewN nd = w4 at HB ⊢
      refine hK.out _ _ trivial (fun hHeld => ?_)
      clear hK K
      refine norm_ (a' := ?_) ?_ ?_
      rotate_left
      · show Act.put _ (some 10) _ = _
        simp only [Act.put, List.setIfInBounds_toArray, List.set_cons_zero, List.set_cons_succ, i64_w, i32_w]
        rfl
      refine one_ (i := 5) (N := some 13) #[true, true, true, true, true, true, true, true, false, false, true, true, false, false, true, true, true, true, false, true, false] rfl rfl (one_of HT_.out (by kernel_rfl)) (by decide) (fun K hK => ?_)
      refine goes_ Tryd.func31 (by kernel_rfl) rfl #[.slice (some ⟨c, 8, none⟩) 8 (s - 8)] (by rfl) rfl rfl (by first | rfl | (go_simp; done)) ?_
      refine (lg_getv (blk_below HC.out HB.out) IB.out (by rw [LN.out.1]; have := LN.out; omega) 8 8 (s - 8) (by rw [LN.out.1]; have := LN.out; omega) (by decide) (by have := LN.out; omega) VR.out).mono ?_
      rintro e w5 ⟨rfl, ⟨nd, rfl⟩⟩
      refine ⟨_, rfl, ?_⟩
      have n1_ := Aside0.mk (pw_below_drewN HB.out nd)
      (try have n2_ := Aside0.mk (blk_drewN HX.out nd))
      clear HB
      (try clear HX)
      have HB := n1_
      (try have HX := n2_)
      clear n1_
      (try clear n2_)
      first | generalize w4.drewN nd = w4 at HB HX ⊢ | generalize w4.drewN nd = w4 at HB ⊢
      refine hK.out _ _ trivial (fun hHeld => ?_)
      clear hK K
      refine norm_ (a' := ?_) ?_ ?_
      rotate_left
      · show Act.put _ (some 13) _ = _
        simp only [Act.put, List.setIfInBounds_toArray, List.set_cons_zero, List.set_cons_succ, i64_w, i32_w]
        rfl
      refine one_ (i := 8) (N := some 16) #[true, true, true, true, true, true, true, true, true, false, true, true, false, false, true, true, true, true, false, true, false] rfl rfl (one_of HT_.out (by kernel_rfl)) (by decide) (fun K hK => ?_)
      refine goes_ Tryd.func31 (by kernel_rfl) rfl #[.slice (some ⟨c, 16, none⟩) 4 (s - 16)] (by rfl) rfl rfl (by first | rfl | (go_simp; done)) ?_
      refine (lg_getv (blk_below HC.out HB.out) IB.out (by rw [LN.out.1]; have := LN.out; omega) 16 4 (s - 16) (by rw [LN.out.1]; have := LN.out; omega) (by decide) (by have := LN.out; omega) VL.out).mono ?_
      rintro e w5 ⟨rfl, ⟨nd, rfl⟩⟩
      refine ⟨_, rfl, ?_⟩
      have n1_ := Aside0.mk (pw_below_drewN HB.out nd)
      (try have n2_ := Aside0.mk (blk_drewN HX.out nd))
      clear HB
      (try clear HX)
      have HB := n1_
      (try have HX := n2_)
      clear n1_
      (try clear n2_)
      first | generalize w4.drewN nd = w4 at HB HX ⊢ | generalize w4.drewN nd = w4 at HB ⊢
      refine hK.out _ _ trivial (fun hHeld => ?_)
      clear hK K
      refine norm_ (a' := ?_) ?_ ?_
      rotate_left
      · show Act.put _ (some 16) _ = _
        simp only [Act.put, List.setIfInBounds_toArray, List.set_cons_zero, List.set_cons_succ, i64_w, i32_w]
        rfl
      refine pure_ (i := 9) (N := some 17) (v := ?_) (a' := ?_) #[true, true, true, true, true, true, true, true, true, true, true, true, false, false, true, true, true, true, false, true, false] rfl rfl (any_of HT_.out (by kernel_rfl)) (fun _ _ _ h => h) (Or.inl ⟨by rfl, ?_⟩) ?_ ?_
      rotate_left
      · intro w'
        go_simp
        with_reducible rfl
      rotate_left
      · simp only [Act.put, List.setIfInBounds_toArray, List.set_cons_zero, List.set_cons_succ, i64_w, i32_w]
        rfl
      refine one_ (i := 12) (N := some 20) #[true, true, true, true, true, true, true, true, true, true, true, true, true, false, true, true, true, true, false, true, false] rfl rfl (one_of HT_.out (by kernel_rfl)) (by decide) (fun K hK => ?_)
      refine goes_ Tryd.func31 (by kernel_rfl) rfl #[.slice (some ⟨c, 20, none⟩) 4 (s - 20)] (by rfl) rfl rfl (by first | rfl | (go_simp; done)) ?_
      refine (lg_getv (blk_below HC.out HB.out) IB.out (by rw [LN.out.1]; have := LN.out; omega) 20 4 (s - 20) (by rw [LN.out.1]; have := LN.out; omega) (by decide) (by have := LN.out; omega) VI.out).mono ?_
      rintro e w5 ⟨rfl, ⟨nd, rfl⟩⟩
      refine ⟨_, rfl, ?_⟩
      have n1_ := Aside0.mk (pw_below_drewN HB.out nd)
      (try have n2_ := Aside0.mk (blk_drewN HX.out nd))
      clear HB
      (try clear HX)
      have HB := n1_
      (try have HX := n2_)
      clear n1_
      (try clear n2_)
      first | generalize w4.drewN nd = w4 at HB HX ⊢ | generalize w4.drewN nd = w4 at HB ⊢
      refine hK.out _ _ trivial (fun hHeld => ?_)
      clear hK K
      refine norm_ (a' := ?_) ?_ ?_
      rotate_left
      · show Act.put _ (some 20) _ = _
        simp only [Act.put, List.setIfInBounds_toArray, List.set_cons_zero, List.set_cons_succ, i64_w, i32_w]
        rfl
      refine pure_ (i := 13) (N := some 21) (v := ?_) (a' := ?_) #[true, true, true, true, true, true, true, true, true, true, true, true, true, true, true, true, true, true, false, true, false] rfl rfl (any_of HT_.out (by kernel_rfl)) (fun _ _ _ h => h) (Or.inl ⟨by rfl, ?_⟩) ?_ ?_
      rotate_left
      · intro w'
        go_simp
        with_reducible rfl
      rotate_left
      · simp only [Act.put, List.setIfInBounds_toArray, List.set_cons_zero, List.set_cons_succ, i64_w, i32_w]
        rfl
      refine pure_ (i := 18) (N := some 26) (v := ?_) (a' := ?_) #[true, true, true, true, true, true, true, true, true, true, true, true, true, true, true, true, true, true, true, true, false] rfl rfl (any_of HT_.out (by kernel_rfl)) (fun _ _ _ h => h) (Or.inl ⟨by rfl, ?_⟩) ?_ ?_
      rotate_left
      · intro w'
        go_simp
        with_reducible rfl
      rotate_left
      · simp only [Act.put, List.setIfInBounds_toArray, List.set_cons_zero, List.set_cons_succ, i64_w, i32_w]
        rfl
      exact norm_ (by first | (simp only [putAll, Act.put, List.setIfInBounds_toArray, List.set_cons_zero, List.set_cons_succ]; done) | (simp only [putAll, Act.put, List.setIfInBounds_toArray, List.set_cons_zero, List.set_cons_succ]; rfl)) (hCont xb _ ⟨HX.out, HB.out, XB.out⟩)
  intro xb w4 hF
  obtain ⟨hx, hb, hxb⟩ := hF
  clear HB
  have HX := Aside0.mk hx
  have HB := Aside0.mk hb
  have XB := Aside0.mk hxb
  clear hx hb hxb
  refine norm_ (a' := ?_) ?_ ?_
  rotate_left
  · simp only [putAll, Act.put, List.setIfInBounds_toArray, List.set_cons_zero, List.set_cons_succ]
    rfl
  refine one_ (i := 20) (N := none) #[true, true, true, true, true, true, true, true, true, true, true, true, true, true, true, true, true, true, true, true, true] rfl rfl (one_of HT_.out (by kernel_rfl)) (by decide) (fun K hK => ?_)
  refine skip_ (w1 := w4.setRow xb #[.int .u64 m, .int .u64 r, .int .i64 ln, .int .i64 i, .slice (some ⟨c, 24, none⟩) (s - 36) (s - 24)]) (by rfl) rfl (store_row rfl rfl rfl HX.out info65s rfl (by simp [Value.oneCell'])) ?_
  have n0_ : Aside0 ((w4.setRow xb #[.int .u64 m, .int .u64 r, .int .i64 ln, .int .i64 i, .slice (some ⟨c, 24, none⟩) (s - 36) (s - 24)]).heap[xb]? = some (.cells #[.int .u64 m, .int .u64 r, .int .i64 ln, .int .i64 i, .slice (some ⟨c, 24, none⟩) (s - 36) (s - 24)] 65 (0, 0))) := ⟨setRow_heap _ _ _ _ 65 (0, 0) HX.out⟩
  have n1_ := Aside0.mk (below_setRow HB.out XB.out #[.int .u64 m, .int .u64 r, .int .i64 ln, .int .i64 i, .slice (some ⟨c, 24, none⟩) (s - 36) (s - 24)])
  clear HX HB
  have HX := n0_
  have HB := n1_
  clear n0_ n1_
  generalize w4.setRow xb #[.int .u64 m, .int .u64 r, .int .i64 ln, .int .i64 i, .slice (some ⟨c, 24, none⟩) (s - 36) (s - 24)] = w4 at HX HB ⊢
  refine hK.out _ _ trivial (fun hHeld => ?_)
  clear hK K
  refine done_ (done_of HT_.out (by kernel_rfl)) ?_
  clear HT_ HW_ hHeld

  go_upto_region 3 with (fail)
  by_cases kA : m = 0
  · have HA := Aside0.mk kA
    have Aa : (m = 0) = True := eq_true kA
    have Ab : (m == 0) = true := by simp [kA]
    have Ac : (m != 0) = false := by simp [kA]
    have Ad : decide (m = 0) = true := decide_eq_true kA
    clear kA
    refine start_ (n := 29) (S := fun w' => w'.cell? ⟨xb, 0, none⟩ = some (.int .u64 m)) (ds := []) #[false, false, false, false, false, false, false, false, false, false, false, false, false, false, false, false, false, false, false, false, false, false, false, false, false, false, false, false, false] (by kernel_rfl) rfl rfl ((blk_cell HX.out 0).trans rfl) (fun hHeld => ?_)
    refine with_tabW log_read.R3.tab log_read.R3.bits (fun HT_ HW_ => ?_)
    have n1_ := Aside0.mk (below_drew1 HB.out)
    have n2_ := Aside0.mk (blk_drew HX.out)
    clear HB HX
    have HB := n1_
    have HX := n2_
    clear n1_ n2_
    generalize w4.drew = w4 at HB HX hHeld ⊢
    refine pure_ (i := 0) (N := some 27) (v := ?_) (a' := ?_) #[true, false, false, false, false, false, false, false, false, false, false, false, false, false, false, false, false, false, false, false, false, false, false, false, false, false, false, false, false] rfl rfl (any_of HT_.out (by kernel_rfl)) (fun _ _ _ h => h) (Or.inl ⟨by rfl, ?_⟩) ?_ ?_
    rotate_left
    · intro w'
      go_simp
      with_reducible rfl
    rotate_left
    · simp only [Act.put, List.setIfInBounds_toArray, List.set_cons_zero, List.set_cons_succ, i64_w, i32_w]
      rfl
    refine take_ (i := 1) (N := some 28) (v := ?_) (a' := ?_) #[true, true, false, false, false, false, false, false, false, false, false, false, false, false, false, false, false, false, false, false, false, false, false, false, false, false, false, false, false] rfl rfl (take_ofW HT_.out HW_.out (by kernel_rfl)) (fun _ _ _ h => h) (Or.inl ⟨by rfl, ?_⟩) hHeld ?_ ?_
    rotate_left
    · intro w' s0
      go_simp
      with_reducible rfl
    rotate_left
    · simp only [Act.put, List.setIfInBounds_toArray, List.set_cons_zero, List.set_cons_succ, i64_w, i32_w]
      rfl
    refine pure_ (i := 2) (N := some 29) (v := ?_) (a' := ?_) #[true, true, true, false, false, false, false, false, false, false, false, false, false, false, false, false, false, false, false, false, false, false, false, false, false, false, false, false, false] rfl rfl (any_of HT_.out (by kernel_rfl)) (fun _ _ _ h => h) (Or.inl ⟨by rfl, ?_⟩) ?_ ?_
    rotate_left
    · intro w'
      go_simp
      with_reducible rfl
    rotate_left
    · simp only [Act.put, List.setIfInBounds_toArray, List.set_cons_zero, List.set_cons_succ, i64_w, i32_w]
      rfl
    refine pure_ (i := 3) (N := some 30) (v := ?_) (a' := ?_) #[true, true, true, true, false, false, false, false, false, false, false, false, false, false, false, false, false, false, false, false, false, false, false, false, false, false, false, false, false] rfl rfl (any_of HT_.out (by kernel_rfl)) (fun _ _ _ h => h) (Or.inl ⟨by rfl, ?_⟩) ?_ ?_
    rotate_left
    · intro w'
      go_simp
      with_reducible rfl
    rotate_left
    · simp only [Act.put, List.setIfInBounds_toArray, List.set_cons_zero, List.set_cons_succ, i64_w, i32_w]
      rfl
    refine pure_ (i := 4) (N := some 31) (v := undef) (a' := ?_) #[true, true, true, true, true, false, false, false, false, false, false, false, false, false, false, false, false, false, false, false, false, false, false, false, false, false, false, false, false] rfl rfl (any_of HT_.out (by kernel_rfl)) (fun _ _ _ h => h) (Or.inr ⟨by rfl, rfl⟩) ?_ ?_
    rotate_left
    · simp only [Act.put, List.setIfInBounds_toArray, List.set_cons_zero, List.set_cons_succ, i64_w, i32_w]
      rfl
    refine pure_ (i := 5) (N := some 32) (v := undef) (a' := ?_) #[true, true, true, true, true, true, false, false, false, false, false, false, false, false, false, false, false, false, false, false, false, false, false, false, false, false, false, false, false] rfl rfl (any_of HT_.out (by kernel_rfl)) (fun _ _ _ h => h) (Or.inr ⟨by rfl, rfl⟩) ?_ ?_
    rotate_left
    · simp only [Act.put, List.setIfInBounds_toArray, List.set_cons_zero, List.set_cons_succ, i64_w, i32_w]
      rfl
    refine pure_ (i := 6) (N := some 33) (v := undef) (a' := ?_) #[true, true, true, true, true, true, true, false, false, false, false, false, false, false, false, false, false, false, false, false, false, false, false, false, false, false, false, false, false] rfl rfl (any_of HT_.out (by kernel_rfl)) (fun _ _ _ h => h) (Or.inr ⟨by rfl, rfl⟩) ?_ ?_
    rotate_left
    · simp only [Act.put, List.setIfInBounds_toArray, List.set_cons_zero, List.set_cons_succ, i64_w, i32_w]
      rfl
    refine pure_ (i := 7) (N := some 34) (v := undef) (a' := ?_) #[true, true, true, true, true, true, true, true, false, false, false, false, false, false, false, false, false, false, false, false, false, false, false, false, false, false, false, false, false] rfl rfl (any_of HT_.out (by kernel_rfl)) (fun _ _ _ h => h) (Or.inr ⟨by rfl, rfl⟩) ?_ ?_
    rotate_left
    · simp only [Act.put, List.setIfInBounds_toArray, List.set_cons_zero, List.set_cons_succ, i64_w, i32_w]
      rfl
    refine pure_ (i := 8) (N := some 35) (v := undef) (a' := ?_) #[true, true, true, true, true, true, true, true, true, false, false, false, false, false, false, false, false, false, false, false, false, false, false, false, false, false, false, false, false] rfl rfl (any_of HT_.out (by kernel_rfl)) (fun _ _ _ h => h) (Or.inr ⟨by rfl, rfl⟩) ?_ ?_
    rotate_left
    · simp only [Act.put, List.setIfInBounds_toArray, List.set_cons_zero, List.set_cons_succ, i64_w, i32_w]
      rfl
    refine pure_ (i := 9) (N := some 36) (v := undef) (a' := ?_) #[true, true, true, true, true, true, true, true, true, true, false, false, false, false, false, false, false, false, false, false, false, false, false, false, false, false, false, false, false] rfl rfl (any_of HT_.out (by kernel_rfl)) (fun _ _ _ h => h) (Or.inr ⟨by rfl, rfl⟩) ?_ ?_
    rotate_left
    · simp only [Act.put, List.setIfInBounds_toArray, List.set_cons_zero, List.set_cons_succ, i64_w, i32_w]
      rfl
    refine pure_ (i := 10) (N := some 37) (v := undef) (a' := ?_) #[true, true, true, true, true, true, true, true, true, true, true, false, false, false, false, false, false, false, false, false, false, false, false, false, false, false, false, false, false] rfl rfl (any_of HT_.out (by kernel_rfl)) (fun _ _ _ h => h) (Or.inr ⟨by rfl, rfl⟩) ?_ ?_
    rotate_left
    · simp only [Act.put, List.setIfInBounds_toArray, List.set_cons_zero, List.set_cons_succ, i64_w, i32_w]
      rfl
    refine pure_ (i := 11) (N := some 38) (v := undef) (a' := ?_) #[true, true, true, true, true, true, true, true, true, true, true, true, false, false, false, false, false, false, false, false, false, false, false, false, false, false, false, false, false] rfl rfl (any_of HT_.out (by kernel_rfl)) (fun _ _ _ h => h) (Or.inr ⟨by rfl, rfl⟩) ?_ ?_
    rotate_left
    · simp only [Act.put, List.setIfInBounds_toArray, List.set_cons_zero, List.set_cons_succ, i64_w, i32_w]
      rfl
    refine pure_ (i := 12) (N := some 39) (v := ?_) (a' := ?_) #[true, true, true, true, true, true, true, true, true, true, true, true, true, false, false, false, false, false, false, false, false, false, false, false, false, false, false, false, false] rfl rfl (any_of HT_.out (by kernel_rfl)) (fun _ _ _ h => h) (Or.inl ⟨by rfl, ?_⟩) ?_ ?_
    rotate_left
    · intro w'
      go_simp
      with_reducible rfl
    rotate_left
    · simp only [Act.put, List.setIfInBounds_toArray, List.set_cons_zero, List.set_cons_succ, i64_w, i32_w]
      rfl
    refine pure_ (i := 13) (N := some 40) (v := ?_) (a' := ?_) #[true, true, true, true, true, true, true, true, true, true, true, true, true, true, false, false, false, false, false, false, false, false, false, false, false, false, false, false, false] rfl rfl (any_of HT_.out (by kernel_rfl)) (fun _ _ _ h => h) (Or.inl ⟨by rfl, ?_⟩) ?_ ?_
    rotate_left
    · intro w'
      go_simp
      with_reducible rfl
    rotate_left
    · simp only [Act.put, List.setIfInBounds_toArray, List.set_cons_zero, List.set_cons_succ, i64_w, i32_w]
      rfl
    refine pure_ (i := 14) (N := some 41) (v := undef) (a' := ?_) #[true, true, true, true, true, true, true, true, true, true, true, true, true, true, true, false, false, false, false, false, false, false, false, false, false, false, false, false, false] rfl rfl (any_of HT_.out (by kernel_rfl)) (fun _ _ _ h => h) (Or.inr ⟨by rfl, rfl⟩) ?_ ?_
    rotate_left
    · simp only [Act.put, List.setIfInBounds_toArray, List.set_cons_zero, List.set_cons_succ, i64_w, i32_w]
      rfl
    refine pure_ (i := 15) (N := some 42) (v := undef) (a' := ?_) #[true, true, true, true, true, true, true, true, true, true, true, true, true, true, true, true, false, false, false, false, false, false, false, false, false, false, false, false, false] rfl rfl (any_of HT_.out (by kernel_rfl)) (fun _ _ _ h => h) (Or.inr ⟨by rfl, rfl⟩) ?_ ?_
    rotate_left
    · simp only [Act.put, List.setIfInBounds_toArray, List.set_cons_zero, List.set_cons_succ, i64_w, i32_w]
      rfl
    refine pure_ (i := 16) (N := some 43) (v := undef) (a' := ?_) #[true, true, true, true, true, true, true, true, true, true, true, true, true, true, true, true, true, false, false, false, false, false, false, false, false, false, false, false, false] rfl rfl (any_of HT_.out (by kernel_rfl)) (fun _ _ _ h => h) (Or.inr ⟨by rfl, rfl⟩) ?_ ?_
    rotate_left
    · simp only [Act.put, List.setIfInBounds_toArray, List.set_cons_zero, List.set_cons_succ, i64_w, i32_w]
      rfl
    refine pure_ (i := 17) (N := some 44) (v := undef) (a' := ?_) #[true, true, true, true, true, true, true, true, true, true, true, true, true, true, true, true, true, true, false, false, false, false, false, false, false, false, false, false, false] rfl rfl (any_of HT_.out (by kernel_rfl)) (fun _ _ _ h => h) (Or.inr ⟨by rfl, rfl⟩) ?_ ?_
    rotate_left
    · simp only [Act.put, List.setIfInBounds_toArray, List.set_cons_zero, List.set_cons_succ, i64_w, i32_w]
      rfl
    refine pure_ (i := 18) (N := some 45) (v := undef) (a' := ?_) #[true, true, true, true, true, true, true, true, true, true, true, true, true, true, true, true, true, true, true, false, false, false, false, false, false, false, false, false, false] rfl rfl (any_of HT_.out (by kernel_rfl)) (fun _ _ _ h => h) (Or.inr ⟨by rfl, rfl⟩) ?_ ?_
    rotate_left
    · simp only [Act.put, List.setIfInBounds_toArray, List.set_cons_zero, List.set_cons_succ, i64_w, i32_w]
      rfl
    refine pure_ (i := 19) (N := some 46) (v := undef) (a' := ?_) #[true, true, true, true, true, true, true, true, true, true, true, true, true, true, true, true, true, true, true, true, false, false, false, false, false, false, false, false, false] rfl rfl (any_of HT_.out (by kernel_rfl)) (fun _ _ _ h => h) (Or.inr ⟨by rfl, rfl⟩) ?_ ?_
    rotate_left
    · simp only [Act.put, List.setIfInBounds_toArray, List.set_cons_zero, List.set_cons_succ, i64_w, i32_w]
      rfl
    refine pure_ (i := 20) (N := some 47) (v := undef) (a' := ?_) #[true, true, true, true, true, true, true, true, true, true, true, true, true, true, true, true, true, true, true, true, true, false, false, false, false, false, false, false, false] rfl rfl (any_of HT_.out (by kernel_rfl)) (fun _ _ _ h => h) (Or.inr ⟨by rfl, rfl⟩) ?_ ?_
    rotate_left
    · simp only [Act.put, List.setIfInBounds_toArray, List.set_cons_zero, List.set_cons_succ, i64_w, i32_w]
      rfl
    refine pure_ (i := 21) (N := some 48) (v := undef) (a' := ?_) #[true, true, true, true, true, true, true, true, true, true, true, true, true, true, true, true, true, true, true, true, true, true, false, false, false, false, false, false, false] rfl rfl (any_of HT_.out (by kernel_rfl)) (fun _ _ _ h => h) (Or.inr ⟨by rfl, rfl⟩) ?_ ?_
    rotate_left
    · simp only [Act.put, List.setIfInBounds_toArray, List.set_cons_zero, List.set_cons_succ, i64_w, i32_w]
      rfl
    refine pure_ (i := 22) (N := some 49) (v := undef) (a' := ?_) #[true, true, true, true, true, true, true, true, true, true, true, true, true, true, true, true, true, true, true, true, true, true, true, false, false, false, false, false, false] rfl rfl (any_of HT_.out (by kernel_rfl)) (fun _ _ _ h => h) (Or.inr ⟨by rfl, rfl⟩) ?_ ?_
    rotate_left
    · simp only [Act.put, List.setIfInBounds_toArray, List.set_cons_zero, List.set_cons_succ, i64_w, i32_w]
      rfl
    refine pure_ (i := 23) (N := some 50) (v := undef) (a' := ?_) #[true, true, true, true, true, true, true, true, true, true, true, true, true, true, true, true, true, true, true, true, true, true, true, true, false, false, false, false, false] rfl rfl (any_of HT_.out (by kernel_rfl)) (fun _ _ _ h => h) (Or.inr ⟨by rfl, rfl⟩) ?_ ?_
    rotate_left
    · simp only [Act.put, List.setIfInBounds_toArray, List.set_cons_zero, List.set_cons_succ, i64_w, i32_w]
      rfl
    refine pure_ (i := 24) (N := some 51) (v := undef) (a' := ?_) #[true, true, true, true, true, true, true, true, true, true, true, true, true, true, true, true, true, true, true, true, true, true, true, true, true, false, false, false, false] rfl rfl (any_of HT_.out (by kernel_rfl)) (fun _ _ _ h => h) (Or.inr ⟨by rfl, rfl⟩) ?_ ?_
    rotate_left
    · simp only [Act.put, List.setIfInBounds_toArray, List.set_cons_zero, List.set_cons_succ, i64_w, i32_w]
      rfl
    refine pure_ (i := 25) (N := some 52) (v := undef) (a' := ?_) #[true, true, true, true, true, true, true, true, true, true, true, true, true, true, true, true, true, true, true, true, true, true, true, true, true, true, false, false, false] rfl rfl (any_of HT_.out (by kernel_rfl)) (fun _ _ _ h => h) (Or.inr ⟨by rfl, rfl⟩) ?_ ?_
    rotate_left
    · simp only [Act.put, List.setIfInBounds_toArray, List.set_cons_zero, List.set_cons_succ, i64_w, i32_w]
      rfl
    refine pure_ (i := 26) (N := some 53) (v := undef) (a' := ?_) #[true, true, true, true, true, true, true, true, true, true, true, true, true, true, true, true, true, true, true, true, true, true, true, true, true, true, true, false, false] rfl rfl (any_of HT_.out (by kernel_rfl)) (fun _ _ _ h => h) (Or.inr ⟨by rfl, rfl⟩) ?_ ?_
    rotate_left
    · simp only [Act.put, List.setIfInBounds_toArray, List.set_cons_zero, List.set_cons_succ, i64_w, i32_w]
      rfl
    refine pure_ (i := 27) (N := some 54) (v := undef) (a' := ?_) #[true, true, true, true, true, true, true, true, true, true, true, true, true, true, true, true, true, true, true, true, true, true, true, true, true, true, true, true, false] rfl rfl (any_of HT_.out (by kernel_rfl)) (fun _ _ _ h => h) (Or.inr ⟨by rfl, rfl⟩) ?_ ?_
    rotate_left
    · simp only [Act.put, List.setIfInBounds_toArray, List.set_cons_zero, List.set_cons_succ, i64_w, i32_w]
      rfl
    refine pure_ (i := 28) (N := some 55) (v := ?_) (a' := ?_) #[true, true, true, true, true, true, true, true, true, true, true, true, true, true, true, true, true, true, true, true, true, true, true, true, true, true, true, true, true] rfl rfl (any_of HT_.out (by kernel_rfl)) (fun _ _ _ h => h) (Or.inl ⟨by rfl, ?_⟩) ?_ ?_
    rotate_left
    · intro w'
      go_simp
      with_reducible rfl
    rotate_left
    · simp only [Act.put, List.setIfInBounds_toArray, List.set_cons_zero, List.set_cons_succ, i64_w, i32_w]
      rfl
    refine done_ (done_of HT_.out (by kernel_rfl)) ?_
    clear HT_ HW_ hHeld

    have HY : Aside0 (w4.heap[yb]? = some (.cells #[.int .u64 0, .int .u64 0, .int .i64 0, .int .i64 0, .slice none 0 0] 65 (0, 0))) := ⟨blk_below HY0.out HB.out⟩
    have n1_ := Aside0.mk (below_step HW0.out HB.out)
    clear HB
    have HB := n1_
    clear n1_
    go_upto_region 4 with (fail)
    refine start_ (n := 4) (S := fun w' => w'.cell? ⟨0, 0, none⟩ = some (.iface 91 (.pointer (some ge)))) (ds := []) #[false, false, false, false] (by kernel_rfl) rfl rfl (cell_below GE0.out (below_drew1 HB.out)) (fun hHeld => ?_)
    refine with_tabW log_read.R4.tab log_read.R4.bits (fun HT_ HW_ => ?_)
    have n1_ := Aside0.mk (below_drew1 HB.out)
    have n2_ := Aside0.mk (blk_drew HY.out)
    clear HB HY
    have HB := n1_
    have HY := n2_
    clear n1_ n2_
    generalize w4.drew = w4 at HB HY hHeld ⊢
    refine pure_ (i := 0) (N := some 56) (v := ?_) (a' := ?_) #[true, false, false, false] rfl rfl (any_of HT_.out (by kernel_rfl)) (fun _ _ _ h => h) (Or.inl ⟨by rfl, ?_⟩) ?_ ?_
    rotate_left
    · intro w'
      go_simp
      with_reducible rfl
    rotate_left
    · simp only [Act.put, List.setIfInBounds_toArray, List.set_cons_zero, List.set_cons_succ, i64_w, i32_w]
      rfl
    refine take_ (i := 1) (N := some 57) (v := ?_) (a' := ?_) #[true, true, false, false] rfl rfl (take_ofW HT_.out HW_.out (by kernel_rfl)) (fun _ _ _ h => h) (Or.inl ⟨by rfl, ?_⟩) hHeld ?_ ?_
    rotate_left
    · intro w' s0
      go_simp
      with_reducible rfl
    rotate_left
    · simp only [Act.put, List.setIfInBounds_toArray, List.set_cons_zero, List.set_cons_succ, i64_w, i32_w]
      rfl
    refine one_ (i := 2) (N := none) #[true, true, true, false] rfl rfl (one_of HT_.out (by kernel_rfl)) (by decide) (fun K hK => ?_)
    refine skip_ (w1 := w4.setRow yb #[.int .u64 0, .int .u64 0, .int .i64 0, .int .i64 0, .slice none 0 0]) (by rfl) rfl (store_row rfl rfl rfl HY.out info65s rfl (by simp [Value.oneCell'])) ?_
    have n0_ : Aside0 ((w4.setRow yb #[.int .u64 0, .int .u64 0, .int .i64 0, .int .i64 0, .slice none 0 0]).heap[yb]? = some (.cells #[.int .u64 0, .int .u64 0, .int .i64 0, .int .i64 0, .slice none 0 0] 65 (0, 0))) := ⟨setRow_heap _ _ _ _ 65 (0, 0) HY.out⟩
    have n1_ := Aside0.mk (below_setRow HB.out YBL.out #[.int .u64 0, .int .u64 0, .int .i64 0, .int .i64 0, .slice none 0 0])
    clear HY HB
    have HY := n0_
    have HB := n1_
    clear n0_ n1_
    generalize w4.setRow yb #[.int .u64 0, .int .u64 0, .int .i64 0, .int .i64 0, .slice none 0 0] = w4 at HY HB ⊢
    refine hK.out _ _ (cell_below GE0.out HB.out) (fun hHeld => ?_)
    clear hK K
    refine pure_ (i := 3) (N := some 3) (v := ?_) (a' := ?_) #[true, true, true, true] rfl rfl (any_of HT_.out (by kernel_rfl)) (fun _ _ _ h => h) (Or.inl ⟨by rfl, ?_⟩) ?_ ?_
    rotate_left
    · intro w'
      go_simp
      with_reducible rfl
    rotate_left
    · simp only [Act.put, List.setIfInBounds_toArray, List.set_cons_zero, List.set_cons_succ, i64_w, i32_w]
      rfl
    refine done_ (done_of HT_.out (by kernel_rfl)) ?_
    clear HT_ HW_ hHeld
    go_wp2
    (try simp only [Exit.inBlock, Exit.then])
    refine bodyPost_ret (results_ct rfl _ _ yb 65 #[.int .u64 0, .int .u64 0, .int .i64 0, .int .i64 0, .slice none 0 0] (0, 0) _ rfl HY.out hu65 rfl info65s) rfl ?_
    rw [HRV.out, if_pos (by exact Or.inl HA.out)]
    exact ⟨rfl, HB.out⟩

  · have HA := Aside0.mk kA
    have Aa : (m = 0) = False := eq_false kA
    have Ab : (m == 0) = false := by simp [kA]
    have Ac : (m != 0) = true := by simp [kA]
    have Ad : decide (m = 0) = false := decide_eq_false kA
    clear kA
    by_cases kB : m = tm
    · have HBB := Aside0.mk kB
      have Ba : (m = tm) = True := eq_true kB
      have Bb : (m == tm) = true := by simp [kB]
      have Bc : (m != tm) = false := by simp [kB]
      have Bd : decide (m = tm) = true := decide_eq_true kB
      clear kB
      by_cases kC : tc = cs
      · have HCC := Aside0.mk kC
        have Ca : (tc = cs) = True := eq_true kC
        have Cb : (tc == cs) = true := by simp [kC]
        have Cc : (tc != cs) = false := by simp [kC]
        have Cd : decide (tc = cs) = true := decide_eq_true kC
        clear kC
        refine start_ (n := 29) (S := fun w' => w'.cell? ⟨xb, 0, none⟩ = some (.int .u64 m)) (ds := []) #[false, false, false, false, false, false, false, false, false, false, false, false, false, false, false, false, false, false, false, false, false, false, false, false, false, false, false, false, false] (by kernel_rfl) rfl rfl ((blk_cell HX.out 0).trans rfl) (fun hHeld => ?_)
        refine with_tabW log_read.R3.tab log_read.R3.bits (fun HT_ HW_ => ?_)
        have n1_ := Aside0.mk (below_drew1 HB.out)
        have n2_ := Aside0.mk (blk_drew HX.out)
        clear HB HX
        have HB := n1_
        have HX := n2_
        clear n1_ n2_
        generalize w4.drew = w4 at HB HX hHeld ⊢
        refine pure_ (i := 0) (N := some 27) (v := ?_) (a' := ?_) #[true, false, false, false, false, false, false, false, false, false, false, false, false, false, false, false, false, false, false, false, false, false, false, false, false, false, false, false, false] rfl rfl (any_of HT_.out (by kernel_rfl)) (fun _ _ _ h => h) (Or.inl ⟨by rfl, ?_⟩) ?_ ?_
        rotate_left
        · intro w'
          go_simp
          with_reducible rfl
        rotate_left
        · simp only [Act.put, List.setIfInBounds_toArray, List.set_cons_zero, List.set_cons_succ, i64_w, i32_w]
          rfl
        refine take_ (i := 1) (N := some 28) (v := ?_) (a' := ?_) #[true, true, false, false, false, false, false, false, false, false, false, false, false, false, false, false, false, false, false, false, false, false, false, false, false, false, false, false, false] rfl rfl (take_ofW HT_.out HW_.out (by kernel_rfl)) (fun _ _ _ h => h) (Or.inl ⟨by rfl, ?_⟩) hHeld ?_ ?_
        rotate_left
        · intro w' s0
          go_simp
          with_reducible rfl
        rotate_left
        · simp only [Act.put, List.setIfInBounds_toArray, List.set_cons_zero, List.set_cons_succ, i64_w, i32_w]
          rfl
        refine pure_ (i := 2) (N := some 29) (v := ?_) (a' := ?_) #[true, true, true, false, false, false, false, false, false, false, false, false, false, false, false, false, false, false, false, false, false, false, false, false, false, false, false, false, false] rfl rfl (any_of HT_.out (by kernel_rfl)) (fun _ _ _ h => h) (Or.inl ⟨by rfl, ?_⟩) ?_ ?_
        rotate_left
        · intro w'
          go_simp
          with_reducible rfl
        rotate_left
        · simp only [Act.put, List.setIfInBounds_toArray, List.set_cons_zero, List.set_cons_succ, i64_w, i32_w]
          rfl
        refine pure_ (i := 3) (N := some 30) (v := ?_) (a' := ?_) #[true, true, true, true, false, false, false, false, false, false, false, false, false, false, false, false, false, false, false, false, false, false, false, false, false, false, false, false, false] rfl rfl (any_of HT_.out (by kernel_rfl)) (fun _ _ _ h => h) (Or.inl ⟨by rfl, ?_⟩) ?_ ?_
        rotate_left
        · intro w'
          go_simp
          with_reducible rfl
        rotate_left
        · simp only [Act.put, List.setIfInBounds_toArray, List.set_cons_zero, List.set_cons_succ, i64_w, i32_w]
          rfl
        refine pure_ (i := 4) (N := some 31) (v := ?_) (a' := ?_) #[true, true, true, true, true, false, false, false, false, false, false, false, false, false, false, false, false, false, false, false, false, false, false, false, false, false, false, false, false] rfl rfl (any_of HT_.out (by kernel_rfl)) (fun _ _ _ h => h) (Or.inl ⟨by rfl, ?_⟩) ?_ ?_
        rotate_left
        · intro w'
          go_simp
          with_reducible rfl
        rotate_left
        · simp only [Act.put, List.setIfInBounds_toArray, List.set_cons_zero, List.set_cons_succ, i64_w, i32_w]
          rfl
        refine pure_ (i := 6) (N := some 33) (v := ?_) (a' := ?_) #[true, true, true, true, true, false, true, false, false, false, false, false, false, false, false, false, false, false, false, false, false, false, false, false, false, false, false, false, false] rfl rfl (any_of HT_.out (by kernel_rfl)) (fun _ _ _ h => h) (Or.inl ⟨by rfl, ?_⟩) ?_ ?_
        rotate_left
        · intro w'
          go_simp
          with_reducible rfl
        rotate_left
        · simp only [Act.put, List.setIfInBounds_toArray, List.set_cons_zero, List.set_cons_succ, i64_w, i32_w]
          rfl
        refine pure_ (i := 7) (N := some 34) (v := ?_) (a' := ?_) #[true, true, true, true, true, false, true, true, false, false, false, false, false, false, false, false, false, false, false, false, false, false, false, false, false, false, false, false, false] rfl rfl (any_of HT_.out (by kernel_rfl)) (fun _ _ _ h => h) (Or.inl ⟨by rfl, ?_⟩) ?_ ?_
        rotate_left
        · intro w'
          go_simp
          with_reducible rfl
        rotate_left
        · simp only [Act.put, List.setIfInBounds_toArray, List.set_cons_zero, List.set_cons_succ, i64_w, i32_w]
          rfl
        refine pure_ (i := 8) (N := some 35) (v := ?_) (a' := ?_) #[true, true, true, true, true, false, true, true, true, false, false, false, false, false, false, false, false, false, false, false, false, false, false, false, false, false, false, false, false] rfl rfl (any_of HT_.out (by kernel_rfl)) (fun _ _ _ h => h) (Or.inl ⟨by rfl, ?_⟩) ?_ ?_
        rotate_left
        · intro w'
          go_simp
          with_reducible rfl
        rotate_left
        · simp only [Act.put, List.setIfInBounds_toArray, List.set_cons_zero, List.set_cons_succ, i64_w, i32_w]
          rfl
        refine pure_ (i := 9) (N := some 36) (v := ?_) (a' := ?_) #[true, true, true, true, true, false, true, true, true, true, false, false, false, false, false, false, false, false, false, false, false, false, false, false, false, false, false, false, false] rfl rfl (any_of HT_.out (by kernel_rfl)) (fun _ _ _ h => h) (Or.inl ⟨by rfl, ?_⟩) ?_ ?_
        rotate_left
        · intro w'
          go_simp
          with_reducible rfl
        rotate_left
        · simp only [Act.put, List.setIfInBounds_toArray, List.set_cons_zero, List.set_cons_succ, i64_w, i32_w]
          rfl
        refine take_ (i := 5) (N := some 32) (v := ?_) (a' := ?_) #[true, true, true, true, true, true, true, true, true, true, false, false, false, false, false, false, false, false, false, false, false, false, false, false, false, false, false, false, false] rfl rfl (take_ofW HT_.out HW_.out (by kernel_rfl)) (fun _ _ _ h => h) (Or.inl ⟨by rfl, ?_⟩) hHeld ?_ ?_
        rotate_left
        · intro w' s0
          go_simp
          with_reducible rfl
        rotate_left
        · simp only [Act.put, List.setIfInBounds_toArray, List.set_cons_zero, List.set_cons_succ, i64_w, i32_w]
          rfl
        refine one_ (i := 10) (N := some 37) #[true, true, true, true, true, true, true, true, true, true, true, false, false, false, false, false, false, false, false, false, false, false, false, false, false, false, false, false, false] rfl rfl (one_of HT_.out (by kernel_rfl)) (by decide) (fun K hK => ?_)
        refine goes_ Tryd.func31 (by kernel_rfl) rfl #[.slice (some ⟨c, (s - 8), none⟩) 8 8] (by rfl) rfl rfl (by first | rfl | (go_simp; done)) ?_
        refine (lg_getv (blk_below HC.out HB.out) IB.out (by rw [LN.out.1]; have := LN.out; omega) (s - 8) 8 8 (by rw [LN.out.1]; have := LN.out; omega) (by decide) (by have := LN.out; omega) VT.out).mono ?_
        rintro e w5 ⟨rfl, ⟨nd, rfl⟩⟩
        refine ⟨_, rfl, ?_⟩
        have n1_ := Aside0.mk (pw_below_drewN HB.out nd)
        have n2_ := Aside0.mk (blk_drewN HX.out nd)
        clear HB HX
        have HB := n1_
        have HX := n2_
        clear n1_ n2_
        generalize w4.drewN nd = w4 at HB HX ⊢
        refine hK.out _ _ ((blk_cell HX.out 0).trans rfl) (fun hHeld => ?_)
        clear hK K
        refine norm_ (a' := ?_) ?_ ?_
        rotate_left
        · show Act.put _ (some 37) _ = _
          simp only [Act.put, List.setIfInBounds_toArray, List.set_cons_zero, List.set_cons_succ, i64_w, i32_w]
          rfl
        refine pure_ (i := 11) (N := some 38) (v := ?_) (a' := ?_) #[true, true, true, true, true, true, true, true, true, true, true, true, false, false, false, false, false, false, false, false, false, false, false, false, false, false, false, false, false] rfl rfl (any_of HT_.out (by kernel_rfl)) (fun _ _ _ h => h) (Or.inl ⟨by rfl, ?_⟩) ?_ ?_
        rotate_left
        · intro w'
          go_simp
          with_reducible rfl
        rotate_left
        · simp only [Act.put, List.setIfInBounds_toArray, List.set_cons_zero, List.set_cons_succ, i64_w, i32_w]
          rfl
        refine pure_ (i := 12) (N := some 39) (v := ?_) (a' := ?_) #[true, true, true, true, true, true, true, true, true, true, true, true, true, false, false, false, false, false, false, false, false, false, false, false, false, false, false, false, false] rfl rfl (any_of HT_.out (by kernel_rfl)) (fun _ _ _ h => h) (Or.inl ⟨by rfl, ?_⟩) ?_ ?_
        rotate_left
        · intro w'
          go_simp
          with_reducible rfl
        rotate_left
        · simp only [Act.put, List.setIfInBounds_toArray, List.set_cons_zero, List.set_cons_succ, i64_w, i32_w]
          rfl
        refine pure_ (i := 13) (N := some 40) (v := ?_) (a' := ?_) #[true, true, true, true, true, true, true, true, true, true, true, true, true, true, false, false, false, false, false, false, false, false, false, false, false, false, false, false, false] rfl rfl (any_of HT_.out (by kernel_rfl)) (fun _ _ _ h => h) (Or.inl ⟨by rfl, ?_⟩) ?_ ?_
        rotate_left
        · intro w'
          go_simp
          with_reducible rfl
        rotate_left
        · simp only [Act.put, List.setIfInBounds_toArray, List.set_cons_zero, List.set_cons_succ, i64_w, i32_w]
          rfl
        refine pure_ (i := 14) (N := some 41) (v := ?_) (a' := ?_) #[true, true, true, true, true, true, true, true, true, true, true, true, true, true, true, false, false, false, false, false, false, false, false, false, false, false, false, false, false] rfl rfl (any_of HT_.out (by kernel_rfl)) (fun _ _ _ h => h) (Or.inl ⟨by rfl, ?_⟩) ?_ ?_
        rotate_left
        · intro w'
          go_simp
          with_reducible rfl
        rotate_left
        · simp only [Act.put, List.setIfInBounds_toArray, List.set_cons_zero, List.set_cons_succ, i64_w, i32_w]
          rfl
        refine pure_ (i := 15) (N := some 42) (v := ?_) (a' := ?_) #[true, true, true, true, true, true, true, true, true, true, true, true, true, true, true, true, false, false, false, false, false, false, false, false, false, false, false, false, false] rfl rfl (any_of HT_.out (by kernel_rfl)) (fun _ _ _ h => h) (Or.inl ⟨by rfl, ?_⟩) ?_ ?_
        rotate_left
        · intro w'
          go_simp
          with_reducible rfl
        rotate_left
        · simp only [Act.put, List.setIfInBounds_toArray, List.set_cons_zero, List.set_cons_succ, i64_w, i32_w]
          rfl
        refine pure_ (i := 16) (N := some 43) (v := ?_) (a' := ?_) #[true, true, true, true, true, true, true, true, true, true, true, true, true, true, true, true, true, false, false, false, false, false, false, false, false, false, false, false, false] rfl rfl (any_of HT_.out (by kernel_rfl)) (fun _ _ _ h => h) (Or.inl ⟨by rfl, ?_⟩) ?_ ?_
        rotate_left
        · intro w'
          go_simp
          with_reducible rfl
        rotate_left
        · simp only [Act.put, List.setIfInBounds_toArray, List.set_cons_zero, List.set_cons_succ, i64_w, i32_w]
          rfl
        refine pure_ (i := 17) (N := some 44) (v := ?_) (a' := ?_) #[true, true, true, true, true, true, true, true, true, true, true, true, true, true, true, true, true, true, false, false, false, false, false, false, false, false, false, false, false] rfl rfl (any_of HT_.out (by kernel_rfl)) (fun _ _ _ h => h) (Or.inl ⟨by rfl, ?_⟩) ?_ ?_
        rotate_left
        · intro w'
          go_simp
          with_reducible rfl
        rotate_left
        · simp only [Act.put, List.setIfInBounds_toArray, List.set_cons_zero, List.set_cons_succ, i64_w, i32_w]
          rfl
        refine pure_ (i := 18) (N := some 45) (v := ?_) (a' := ?_) #[true, true, true, true, true, true, true, true, true, true, true, true, true, true, true, true, true, true, true, false, false, false, false, false, false, false, false, false, false] rfl rfl (any_of HT_.out (by kernel_rfl)) (fun _ _ _ h => h) (Or.inl ⟨by rfl, ?_⟩) ?_ ?_
        rotate_left
        · intro w'
          go_simp
          with_reducible rfl
        rotate_left
        · simp only [Act.put, List.setIfInBounds_toArray, List.set_cons_zero, List.set_cons_succ, i64_w, i32_w]
          rfl
        refine pure_ (i := 19) (N := some 46) (v := ?_) (a' := ?_) #[true, true, true, true, true, true, true, true, true, true, true, true, true, true, true, true, true, true, true, true, false, false, false, false, false, false, false, false, false] rfl rfl (any_of HT_.out (by kernel_rfl)) (fun _ _ _ h => h) (Or.inl ⟨by rfl, ?_⟩) ?_ ?_
        rotate_left
        · intro w'
          go_simp
          with_reducible rfl
        rotate_left
        · simp only [Act.put, List.setIfInBounds_toArray, List.set_cons_zero, List.set_cons_succ, i64_w, i32_w]
          rfl
        refine pure_ (i := 21) (N := some 48) (v := ?_) (a' := ?_) #[true, true, true, true, true, true, true, true, true, true, true, true, true, true, true, true, true, true, true, true, false, true, false, false, false, false, false, false, false] rfl rfl (any_of HT_.out (by kernel_rfl)) (fun _ _ _ h => h) (Or.inl ⟨by rfl, ?_⟩) ?_ ?_
        rotate_left
        · intro w'
          go_simp
          with_reducible rfl
        rotate_left
        · simp only [Act.put, List.setIfInBounds_toArray, List.set_cons_zero, List.set_cons_succ, i64_w, i32_w]
          rfl
        refine pure_ (i := 22) (N := some 49) (v := ?_) (a' := ?_) #[true, true, true, true, true, true, true, true, true, true, true, true, true, true, true, true, true, true, true, true, false, true, true, false, false, false, false, false, false] rfl rfl (any_of HT_.out (by kernel_rfl)) (fun _ _ _ h => h) (Or.inl ⟨by rfl, ?_⟩) ?_ ?_
        rotate_left
        · intro w'
          go_simp
          with_reducible rfl
        rotate_left
        · simp only [Act.put, List.setIfInBounds_toArray, List.set_cons_zero, List.set_cons_succ, i64_w, i32_w]
          rfl
        refine pure_ (i := 23) (N := some 50) (v := ?_) (a' := ?_) #[true, true, true, true, true, true, true, true, true, true, true, true, true, true, true, true, true, true, true, true, false, true, true, true, false, false, false, false, false] rfl rfl (any_of HT_.out (by kernel_rfl)) (fun _ _ _ h => h) (Or.inl ⟨by rfl, ?_⟩) ?_ ?_
        rotate_left
        · intro w'
          go_simp
          with_reducible rfl
        rotate_left
        · simp only [Act.put, List.setIfInBounds_toArray, List.set_cons_zero, List.set_cons_succ, i64_w, i32_w]
          rfl
        refine pure_ (i := 24) (N := some 51) (v := ?_) (a' := ?_) #[true, true, true, true, true, true, true, true, true, true, true, true, true, true, true, true, true, true, true, true, false, true, true, true, true, false, false, false, false] rfl rfl (any_of HT_.out (by kernel_rfl)) (fun _ _ _ h => h) (Or.inl ⟨by rfl, ?_⟩) ?_ ?_
        rotate_left
        · intro w'
          go_simp
          with_reducible rfl
        rotate_left
        · simp only [Act.put, List.setIfInBounds_toArray, List.set_cons_zero, List.set_cons_succ, i64_w, i32_w]
          rfl
        refine one_ (i := 20) (N := some 47) #[true, true, true, true, true, true, true, true, true, true, true, true, true, true, true, true, true, true, true, true, true, true, true, true, true, false, false, false, false] rfl rfl (one_of HT_.out (by kernel_rfl)) (by decide) (fun K hK => ?_)
        refine goes_ Tryd.func31 (by kernel_rfl) rfl #[.slice (some ⟨c, (s - 12), none⟩) 4 12] (by rfl) rfl rfl (by first | rfl | (go_simp; done)) ?_
        refine (lg_getv (blk_below HC.out HB.out) IB.out (by rw [LN.out.1]; have := LN.out; omega) (s - 12) 4 12 (by rw [LN.out.1]; have := LN.out; omega) (by decide) (by have := LN.out; omega) VC.out).mono ?_
        rintro e w5 ⟨rfl, ⟨nd, rfl⟩⟩
        refine ⟨_, rfl, ?_⟩
        have n1_ := Aside0.mk (pw_below_drewN HB.out nd)
        have n2_ := Aside0.mk (blk_drewN HX.out nd)
        clear HB HX
        have HB := n1_
        have HX := n2_
        clear n1_ n2_
        generalize w4.drewN nd = w4 at HB HX ⊢
        refine hK.out _ _ ((blk_cell HX.out 0).trans rfl) (fun hHeld => ?_)
        clear hK K
        refine norm_ (a' := ?_) ?_ ?_
        rotate_left
        · show Act.put _ (some 47) _ = _
          simp only [Act.put, List.setIfInBounds_toArray, List.set_cons_zero, List.set_cons_succ, i64_w, i32_w]
          rfl
        refine one_ (i := 25) (N := some 52) #[true, true, true, true, true, true, true, true, true, true, true, true, true, true, true, true, true, true, true, true, true, true, true, true, true, true, false, false, false] rfl rfl (one_of HT_.out (by kernel_rfl)) (by decide) (fun K hK => ?_)
        refine goes_ Tryd.func11 (by kernel_rfl) rfl #[.slice (some ⟨c, 0, none⟩) (s - 12) s] (by rfl) rfl rfl (by first | rfl | (go_simp; done)) ?_
        refine (lg_sum (blk_below HC.out HB.out) (by rw [LN.out.1]; have := LN.out; omega) (s - 12) s (by rw [LN.out.1]; omega) (by omega)).mono ?_
        rintro e w5 ⟨rfl, ⟨nd, rfl⟩⟩
        refine ⟨_, rfl, ?_⟩
        rw [VS.out]
        have n1_ := Aside0.mk (pw_below_drewN HB.out nd)
        have n2_ := Aside0.mk (blk_drewN HX.out nd)
        clear HB HX
        have HB := n1_
        have HX := n2_
        clear n1_ n2_
        generalize w4.drewN nd = w4 at HB HX ⊢
        refine hK.out _ _ ((blk_cell HX.out 0).trans rfl) (fun hHeld => ?_)
        clear hK K
        refine norm_ (a' := ?_) ?_ ?_
        rotate_left
        · show Act.put _ (some 52) _ = _
          simp only [Act.put, List.setIfInBounds_toArray, List.set_cons_zero, List.set_cons_succ, i64_w, i32_w]
          rfl
        refine pure_ (i := 26) (N := some 53) (v := ?_) (a' := ?_) #[true, true, true, true, true, true, true, true, true, true, true, true, true, true, true, true, true, true, true, true, true, true, true, true, true, true, true, false, false] rfl rfl (any_of HT_.out (by kernel_rfl)) (fun _ _ _ h => h) (Or.inl ⟨by rfl, ?_⟩) ?_ ?_
        rotate_left
        · intro w'
          go_simp
          with_reducible rfl
        rotate_left
        · simp only [Act.put, List.setIfInBounds_toArray, List.set_cons_zero, List.set_cons_succ, i64_w, i32_w]
          rfl
        refine pure_ (i := 27) (N := some 54) (v := ?_) (a' := ?_) #[true, true, true, true, true, true, true, true, true, true, true, true, true, true, true, true, true, true, true, true, true, true, true, true, true, true, true, true, false] rfl rfl (any_of HT_.out (by kernel_rfl)) (fun _ _ _ h => h) (Or.inl ⟨by rfl, ?_⟩) ?_ ?_
        rotate_left
        · intro w'
          go_simp
          with_reducible rfl
        rotate_left
        · simp only [Act.put, List.setIfInBounds_toArray, List.set_cons_zero, List.set_cons_succ, i64_w, i32_w]
          rfl
        refine pure_ (i := 28) (N := some 55) (v := ?_) (a' := ?_) #[true, true, true, true, true, true, true, true, true, true, true, true, true, true, true, true, true, true, true, true, true, true, true, true, true, true, true, true, true] rfl rfl (any_of HT_.out (by kernel_rfl)) (fun _ _ _ h => h) (Or.inl ⟨by rfl, ?_⟩) ?_ ?_
        rotate_left
        · intro w'
          go_simp
          with_reducible rfl
        rotate_left
        · simp only [Act.put, List.setIfInBounds_toArray, List.set_cons_zero, List.set_cons_succ, i64_w, i32_w]
          rfl
        refine done_ (done_of HT_.out (by kernel_rfl)) ?_
        clear HT_ HW_ hHeld

        have HY : Aside0 (w4.heap[yb]? = some (.cells #[.int .u64 0, .int .u64 0, .int .i64 0, .int .i64 0, .slice none 0 0] 65 (0, 0))) := ⟨blk_below HY0.out HB.out⟩
        have n1_ := Aside0.mk (below_step HW0.out HB.out)
        clear HB
        have HB := n1_
        clear n1_
        go_upto_region 5 with (fail)
        go_wp2_with (first | ((with_reducible refine gate_dst (N := 58) rfl ?_); refine Kd.event_run rfl (load_row rfl rfl HX.out hu65 rfl info65s) ?_) | (refine event_skip rfl rfl (store_row rfl rfl rfl HY.out info65s rfl (by simp [Value.oneCell'])) ?_))
        (try simp only [Exit.inBlock, Exit.then])
        refine bodyPost_ret (results_ct rfl _ _ yb 65 #[.int .u64 m, .int .u64 r, .int .i64 ln, .int .i64 i, .slice (some ⟨c, 24, none⟩) (s - 36) (s - 24)] (0, 0) _ rfl (setRow_heap w4 yb _ _ 65 (0, 0) HY.out) hu65 rfl info65s) rfl ?_
        rw [HRV.out, if_neg (by exact fun h => h.elim HA.out (fun h => h.elim (fun h => h HBB.out) (fun h => h HCC.out)))]
        exact ⟨rfl, below_setRow HB.out YBL.out _⟩

      · have HCC := Aside0.mk kC
        have Ca : (tc = cs) = False := eq_false kC
        have Cb : (tc == cs) = false := by simp [kC]
        have Cc : (tc != cs) = true := by simp [kC]
        have Cd : decide (tc = cs) = false := decide_eq_false kC
        clear kC
        refine start_ (n := 29) (S := fun w' => w'.cell? ⟨xb, 0, none⟩ = some (.int .u64 m)) (ds := []) #[false, false, false, false, false, false, false, false, false, false, false, false, false, false, false, false, false, false, false, false, false, false, false, false, false, false, false, false, false] (by kernel_rfl) rfl rfl ((blk_cell HX.out 0).trans rfl) (fun hHeld => ?_)
        refine with_tabW log_read.R3.tab log_read.R3.bits (fun HT_ HW_ => ?_)
        have n1_ := Aside0.mk (below_drew1 HB.out)
        have n2_ := Aside0.mk (blk_drew HX.out)
        clear HB HX
        have HB := n1_
        have HX := n2_
        clear n1_ n2_
        generalize w4.drew = w4 at HB HX hHeld ⊢
        refine pure_ (i := 0) (N := some 27) (v := ?_) (a' := ?_) #[true, false, false, false, false, false, false, false, false, false, false, false, false, false, false, false, false, false, false, false, false, false, false, false, false, false, false, false, false] rfl rfl (any_of HT_.out (by kernel_rfl)) (fun _ _ _ h => h) (Or.inl ⟨by rfl, ?_⟩) ?_ ?_
        rotate_left
        · intro w'
          go_simp
          with_reducible rfl
        rotate_left
        · simp only [Act.put, List.setIfInBounds_toArray, List.set_cons_zero, List.set_cons_succ, i64_w, i32_w]
          rfl
        refine take_ (i := 1) (N := some 28) (v := ?_) (a' := ?_) #[true, true, false, false, false, false, false, false, false, false, false, false, false, false, false, false, false, false, false, false, false, false, false, false, false, false, false, false, false] rfl rfl (take_ofW HT_.out HW_.out (by kernel_rfl)) (fun _ _ _ h => h) (Or.inl ⟨by rfl, ?_⟩) hHeld ?_ ?_
        rotate_left
        · intro w' s0
          go_simp
          with_reducible rfl
        rotate_left
        · simp only [Act.put, List.setIfInBounds_toArray, List.set_cons_zero, List.set_cons_succ, i64_w, i32_w]
          rfl
        refine pure_ (i := 2) (N := some 29) (v := ?_) (a' := ?_) #[true, true, true, false, false, false, false, false, false, false, false, false, false, false, false, false, false, false, false, false, false, false, false, false, false, false, false, false, false] rfl rfl (any_of HT_.out (by kernel_rfl)) (fun _ _ _ h => h) (Or.inl ⟨by rfl, ?_⟩) ?_ ?_
        rotate_left
        · intro w'
          go_simp
          with_reducible rfl
        rotate_left
        · simp only [Act.put, List.setIfInBounds_toArray, List.set_cons_zero, List.set_cons_succ, i64_w, i32_w]
          rfl
        refine pure_ (i := 3) (N := some 30) (v := ?_) (a' := ?_) #[true, true, true, true, false, false, false, false, false, false, false, false, false, false, false, false, false, false, false, false, false, false, false, false, false, false, false, false, false] rfl rfl (any_of HT_.out (by kernel_rfl)) (fun _ _ _ h => h) (Or.inl ⟨by rfl, ?_⟩) ?_ ?_
        rotate_left
        · intro w'
          go_simp
          with_reducible rfl
        rotate_left
        · simp only [Act.put, List.setIfInBounds_toArray, List.set_cons_zero, List.set_cons_succ, i64_w, i32_w]
          rfl
        refine pure_ (i := 4) (N := some 31) (v := ?_) (a' := ?_) #[true, true, true, true, true, false, false, false, false, false, false, false, false, false, false, false, false, false, false, false, false, false, false, false, false, false, false, false, false] rfl rfl (any_of HT_.out (by kernel_rfl)) (fun _ _ _ h => h) (Or.inl ⟨by rfl, ?_⟩) ?_ ?_
        rotate_left
        · intro w'
          go_simp
          with_reducible rfl
        rotate_left
        · simp only [Act.put, List.setIfInBounds_toArray, List.set_cons_zero, List.set_cons_succ, i64_w, i32_w]
          rfl
        refine pure_ (i := 6) (N := some 33) (v := ?_) (a' := ?_) #[true, true, true, true, true, false, true, false, false, false, false, false, false, false, false, false, false, false, false, false, false, false, false, false, false, false, false, false, false] rfl rfl (any_of HT_.out (by kernel_rfl)) (fun _ _ _ h => h) (Or.inl ⟨by rfl, ?_⟩) ?_ ?_
        rotate_left
        · intro w'
          go_simp
          with_reducible rfl
        rotate_left
        · simp only [Act.put, List.setIfInBounds_toArray, List.set_cons_zero, List.set_cons_succ, i64_w, i32_w]
          rfl
        refine pure_ (i := 7) (N := some 34) (v := ?_) (a' := ?_) #[true, true, true, true, true, false, true, true, false, false, false, false, false, false, false, false, false, false, false, false, false, false, false, false, false, false, false, false, false] rfl rfl (any_of HT_.out (by kernel_rfl)) (fun _ _ _ h => h) (Or.inl ⟨by rfl, ?_⟩) ?_ ?_
        rotate_left
        · intro w'
          go_simp
          with_reducible rfl
        rotate_left
        · simp only [Act.put, List.setIfInBounds_toArray, List.set_cons_zero, List.set_cons_succ, i64_w, i32_w]
          rfl
        refine pure_ (i := 8) (N := some 35) (v := ?_) (a' := ?_) #[true, true, true, true, true, false, true, true, true, false, false, false, false, false, false, false, false, false, false, false, false, false, false, false, false, false, false, false, false] rfl rfl (any_of HT_.out (by kernel_rfl)) (fun _ _ _ h => h) (Or.inl ⟨by rfl, ?_⟩) ?_ ?_
        rotate_left
        · intro w'
          go_simp
          with_reducible rfl
        rotate_left
        · simp only [Act.put, List.setIfInBounds_toArray, List.set_cons_zero, List.set_cons_succ, i64_w, i32_w]
          rfl
        refine pure_ (i := 9) (N := some 36) (v := ?_) (a' := ?_) #[true, true, true, true, true, false, true, true, true, true, false, false, false, false, false, false, false, false, false, false, false, false, false, false, false, false, false, false, false] rfl rfl (any_of HT_.out (by kernel_rfl)) (fun _ _ _ h => h) (Or.inl ⟨by rfl, ?_⟩) ?_ ?_
        rotate_left
        · intro w'
          go_simp
          with_reducible rfl
        rotate_left
        · simp only [Act.put, List.setIfInBounds_toArray, List.set_cons_zero, List.set_cons_succ, i64_w, i32_w]
          rfl
        refine take_ (i := 5) (N := some 32) (v := ?_) (a' := ?_) #[true, true, true, true, true, true, true, true, true, true, false, false, false, false, false, false, false, false, false, false, false, false, false, false, false, false, false, false, false] rfl rfl (take_ofW HT_.out HW_.out (by kernel_rfl)) (fun _ _ _ h => h) (Or.inl ⟨by rfl, ?_⟩) hHeld ?_ ?_
        rotate_left
        · intro w' s0
          go_simp
          with_reducible rfl
        rotate_left
        · simp only [Act.put, List.setIfInBounds_toArray, List.set_cons_zero, List.set_cons_succ, i64_w, i32_w]
          rfl
        refine one_ (i := 10) (N := some 37) #[true, true, true, true, true, true, true, true, true, true, true, false, false, false, false, false, false, false, false, false, false, false, false, false, false, false, false, false, false] rfl rfl (one_of HT_.out (by kernel_rfl)) (by decide) (fun K hK => ?_)
        refine goes_ Tryd.func31 (by kernel_rfl) rfl #[.slice (some ⟨c, (s - 8), none⟩) 8 8] (by rfl) rfl rfl (by first | rfl | (go_simp; done)) ?_
        refine (lg_getv (blk_below HC.out HB.out) IB.out (by rw [LN.out.1]; have := LN.out; omega) (s - 8) 8 8 (by rw [LN.out.1]; have := LN.out; omega) (by decide) (by have := LN.out; omega) VT.out).mono ?_
        rintro e w5 ⟨rfl, ⟨nd, rfl⟩⟩
        refine ⟨_, rfl, ?_⟩
        have n1_ := Aside0.mk (pw_below_drewN HB.out nd)
        have n2_ := Aside0.mk (blk_drewN HX.out nd)
        clear HB HX
        have HB := n1_
        have HX := n2_
        clear n1_ n2_
        generalize w4.drewN nd = w4 at HB HX ⊢
        refine hK.out _ _ ((blk_cell HX.out 0).trans rfl) (fun hHeld => ?_)
        clear hK K
        refine norm_ (a' := ?_) ?_ ?_
        rotate_left
        · show Act.put _ (some 37) _ = _
          simp only [Act.put, List.setIfInBounds_toArray, List.set_cons_zero, List.set_cons_succ, i64_w, i32_w]
          rfl
        refine pure_ (i := 11) (N := some 38) (v := ?_) (a' := ?_) #[true, true, true, true, true, true, true, true, true, true, true, true, false, false, false, false, false, false, false, false, false, false, false, false, false, false, false, false, false] rfl rfl (any_of HT_.out (by kernel_rfl)) (fun _ _ _ h => h) (Or.inl ⟨by rfl, ?_⟩) ?_ ?_
        rotate_left
        · intro w'
          go_simp
          with_reducible rfl
        rotate_left
        · simp only [Act.put, List.setIfInBounds_toArray, List.set_cons_zero, List.set_cons_succ, i64_w, i32_w]
          rfl
        refine pure_ (i := 12) (N := some 39) (v := ?_) (a' := ?_) #[true, true, true, true, true, true, true, true, true, true, true, true, true, false, false, false, false, false, false, false, false, false, false, false, false, false, false, false, false] rfl rfl (any_of HT_.out (by kernel_rfl)) (fun _ _ _ h => h) (Or.inl ⟨by rfl, ?_⟩) ?_ ?_
        rotate_left
        · intro w'
          go_simp
          with_reducible rfl
        rotate_left
        · simp only [Act.put, List.setIfInBounds_toArray, List.set_cons_zero, List.set_cons_succ, i64_w, i32_w]
          rfl
        refine pure_ (i := 13) (N := some 40) (v := ?_) (a' := ?_) #[true, true, true, true, true, true, true, true, true, true, true, true, true, true, false, false, false, false, false, false, false, false, false, false, false, false, false, false, false] rfl rfl (any_of HT_.out (by kernel_rfl)) (fun _ _ _ h => h) (Or.inl ⟨by rfl, ?_⟩) ?_ ?_
        rotate_left
        · intro w'
          go_simp
          with_reducible rfl
        rotate_left
        · simp only [Act.put, List.setIfInBounds_toArray, List.set_cons_zero, List.set_cons_succ, i64_w, i32_w]
          rfl
        refine pure_ (i := 14) (N := some 41) (v := ?_) (a' := ?_) #[true, true, true, true, true, true, true, true, true, true, true, true, true, true, true, false, false, false, false, false, false, false, false, false, false, false, false, false, false] rfl rfl (any_of HT_.out (by kernel_rfl)) (fun _ _ _ h => h) (Or.inl ⟨by rfl, ?_⟩) ?_ ?_
        rotate_left
        · intro w'
          go_simp
          with_reducible rfl
        rotate_left
        · simp only [Act.put, List.setIfInBounds_toArray, List.set_cons_zero, List.set_cons_succ, i64_w, i32_w]
          rfl
        refine pure_ (i := 15) (N := some 42) (v := ?_) (a' := ?_) #[true, true, true, true, true, true, true, true, true, true, true, true, true, true, true, true, false, false, false, false, false, false, false, false, false, false, false, false, false] rfl rfl (any_of HT_.out (by kernel_rfl)) (fun _ _ _ h => h) (Or.inl ⟨by rfl, ?_⟩) ?_ ?_
        rotate_left
        · intro w'
          go_simp
          with_reducible rfl
        rotate_left
        · simp only [Act.put, List.setIfInBounds_toArray, List.set_cons_zero, List.set_cons_succ, i64_w, i32_w]
          rfl
        refine pure_ (i := 16) (N := some 43) (v := ?_) (a' := ?_) #[true, true, true, true, true, true, true, true, true, true, true, true, true, true, true, true, true, false, false, false, false, false, false, false, false, false, false, false, false] rfl rfl (any_of HT_.out (by kernel_rfl)) (fun _ _ _ h => h) (Or.inl ⟨by rfl, ?_⟩) ?_ ?_
        rotate_left
        · intro w'
          go_simp
          with_reducible rfl
        rotate_left
        · simp only [Act.put, List.setIfInBounds_toArray, List.set_cons_zero, List.set_cons_succ, i64_w, i32_w]
          rfl
        refine pure_ (i := 17) (N := some 44) (v := ?_) (a' := ?_) #[true, true, true, true, true, true, true, true, true, true, true, true, true, true, true, true, true, true, false, false, false, false, false, false, false, false, false, false, false] rfl rfl (any_of HT_.out (by kernel_rfl)) (fun _ _ _ h => h) (Or.inl ⟨by rfl, ?_⟩) ?_ ?_
        rotate_left
        · intro w'
          go_simp
          with_reducible rfl
        rotate_left
        · simp only [Act.put, List.setIfInBounds_toArray, List.set_cons_zero, List.set_cons_succ, i64_w, i32_w]
          rfl
        refine pure_ (i := 18) (N := some 45) (v := ?_) (a' := ?_) #[true, true, true, true, true, true, true, true, true, true, true, true, true, true, true, true, true, true, true, false, false, false, false, false, false, false, false, false, false] rfl rfl (any_of HT_.out (by kernel_rfl)) (fun _ _ _ h => h) (Or.inl ⟨by rfl, ?_⟩) ?_ ?_
        rotate_left
        · intro w'
          go_simp
          with_reducible rfl
        rotate_left
        · simp only [Act.put, List.setIfInBounds_toArray, List.set_cons_zero, List.set_cons_succ, i64_w, i32_w]
          rfl
        refine pure_ (i := 19) (N := some 46) (v := ?_) (a' := ?_) #[true, true, true, true, true, true, true, true, true, true, true, true, true, true, true, true, true, true, true, true, false, false, false, false, false, false, false, false, false] rfl rfl (any_of HT_.out (by kernel_rfl)) (fun _ _ _ h => h) (Or.inl ⟨by rfl, ?_⟩) ?_ ?_
        rotate_left
        · intro w'
          go_simp
          with_reducible rfl
        rotate_left
        · simp only [Act.put, List.setIfInBounds_toArray, List.set_cons_zero, List.set_cons_succ, i64_w, i32_w]
          rfl
        refine pure_ (i := 21) (N := some 48) (v := ?_) (a' := ?_) #[true, true, true, true, true, true, true, true, true, true, true, true, true, true, true, true, true, true, true, true, false, true, false, false, false, false, false, false, false] rfl rfl (any_of HT_.out (by kernel_rfl)) (fun _ _ _ h => h) (Or.inl ⟨by rfl, ?_⟩) ?_ ?_
        rotate_left
        · intro w'
          go_simp
          with_reducible rfl
        rotate_left
        · simp only [Act.put, List.setIfInBounds_toArray, List.set_cons_zero, List.set_cons_succ, i64_w, i32_w]
          rfl
        refine pure_ (i := 22) (N := some 49) (v := ?_) (a' := ?_) #[true, true, true, true, true, true, true, true, true, true, true, true, true, true, true, true, true, true, true, true, false, true, true, false, false, false, false, false, false] rfl rfl (any_of HT_.out (by kernel_rfl)) (fun _ _ _ h => h) (Or.inl ⟨by rfl, ?_⟩) ?_ ?_
        rotate_left
        · intro w'
          go_simp
          with_reducible rfl
        rotate_left
        · simp only [Act.put, List.setIfInBounds_toArray, List.set_cons_zero, List.set_cons_succ, i64_w, i32_w]
          rfl
        refine pure_ (i := 23) (N := some 50) (v := ?_) (a' := ?_) #[true, true, true, true, true, true, true, true, true, true, true, true, true, true, true, true, true, true, true, true, false, true, true, true, false, false, false, false, false] rfl rfl (any_of HT_.out (by kernel_rfl)) (fun _ _ _ h => h) (Or.inl ⟨by rfl, ?_⟩) ?_ ?_
        rotate_left
        · intro w'
          go_simp
          with_reducible rfl
        rotate_left
        · simp only [Act.put, List.setIfInBounds_toArray, List.set_cons_zero, List.set_cons_succ, i64_w, i32_w]
          rfl
        refine pure_ (i := 24) (N := some 51) (v := ?_) (a' := ?_) #[true, true, true, true, true, true, true, true, true, true, true, true, true, true, true, true, true, true, true, true, false, true, true, true, true, false, false, false, false] rfl rfl (any_of HT_.out (by kernel_rfl)) (fun _ _ _ h => h) (Or.inl ⟨by rfl, ?_⟩) ?_ ?_
        rotate_left
        · intro w'
          go_simp
          with_reducible rfl
        rotate_left
        · simp only [Act.put, List.setIfInBounds_toArray, List.set_cons_zero, List.set_cons_succ, i64_w, i32_w]
          rfl
        refine one_ (i := 20) (N := some 47) #[true, true, true, true, true, true, true, true, true, true, true, true, true, true, true, true, true, true, true, true, true, true, true, true, true, false, false, false, false] rfl rfl (one_of HT_.out (by kernel_rfl)) (by decide) (fun K hK => ?_)
        refine goes_ Tryd.func31 (by kernel_rfl) rfl #[.slice (some ⟨c, (s - 12), none⟩) 4 12] (by rfl) rfl rfl (by first | rfl | (go_simp; done)) ?_
        refine (lg_getv (blk_below HC.out HB.out) IB.out (by rw [LN.out.1]; have := LN.out; omega) (s - 12) 4 12 (by rw [LN.out.1]; have := LN.out; omega) (by decide) (by have := LN.out; omega) VC.out).mono ?_
        rintro e w5 ⟨rfl, ⟨nd, rfl⟩⟩
        refine ⟨_, rfl, ?_⟩
        have n1_ := Aside0.mk (pw_below_drewN HB.out nd)
        have n2_ := Aside0.mk (blk_drewN HX.out nd)
        clear HB HX
        have HB := n1_
        have HX := n2_
        clear n1_ n2_
        generalize w4.drewN nd = w4 at HB HX ⊢
        refine hK.out _ _ ((blk_cell HX.out 0).trans rfl) (fun hHeld => ?_)
        clear hK K
        refine norm_ (a' := ?_) ?_ ?_
        rotate_left
        · show Act.put _ (some 47) _ = _
          simp only [Act.put, List.setIfInBounds_toArray, List.set_cons_zero, List.set_cons_succ, i64_w, i32_w]
          rfl
        refine one_ (i := 25) (N := some 52) #[true, true, true, true, true, true, true, true, true, true, true, true, true, true, true, true, true, true, true, true, true, true, true, true, true, true, false, false, false] rfl rfl (one_of HT_.out (by kernel_rfl)) (by decide) (fun K hK => ?_)
        refine goes_ Tryd.func11 (by kernel_rfl) rfl #[.slice (some ⟨c, 0, none⟩) (s - 12) s] (by rfl) rfl rfl (by first | rfl | (go_simp; done)) ?_
        refine (lg_sum (blk_below HC.out HB.out) (by rw [LN.out.1]; have := LN.out; omega) (s - 12) s (by rw [LN.out.1]; omega) (by omega)).mono ?_
        rintro e w5 ⟨rfl, ⟨nd, rfl⟩⟩
        refine ⟨_, rfl, ?_⟩
        rw [VS.out]
        have n1_ := Aside0.mk (pw_below_drewN HB.out nd)
        have n2_ := Aside0.mk (blk_drewN HX.out nd)
        clear HB HX
        have HB := n1_
        have HX := n2_
        clear n1_ n2_
        generalize w4.drewN nd = w4 at HB HX ⊢
        refine hK.out _ _ ((blk_cell HX.out 0).trans rfl) (fun hHeld => ?_)
        clear hK K
        refine norm_ (a' := ?_) ?_ ?_
        rotate_left
        · show Act.put _ (some 52) _ = _
          simp only [Act.put, List.setIfInBounds_toArray, List.set_cons_zero, List.set_cons_succ, i64_w, i32_w]
          rfl
        refine pure_ (i := 26) (N := some 53) (v := ?_) (a' := ?_) #[true, true, true, true, true, true, true, true, true, true, true, true, true, true, true, true, true, true, true, true, true, true, true, true, true, true, true, false, false] rfl rfl (any_of HT_.out (by kernel_rfl)) (fun _ _ _ h => h) (Or.inl ⟨by rfl, ?_⟩) ?_ ?_
        rotate_left
        · intro w'
          go_simp
          with_reducible rfl
        rotate_left
        · simp only [Act.put, List.setIfInBounds_toArray, List.set_cons_zero, List.set_cons_succ, i64_w, i32_w]
          rfl
        refine pure_ (i := 27) (N := some 54) (v := ?_) (a' := ?_) #[true, true, true, true, true, true, true, true, true, true, true, true, true, true, true, true, true, true, true, true, true, true, true, true, true, true, true, true, false] rfl rfl (any_of HT_.out (by kernel_rfl)) (fun _ _ _ h => h) (Or.inl ⟨by rfl, ?_⟩) ?_ ?_
        rotate_left
        · intro w'
          go_simp
          with_reducible rfl
        rotate_left
        · simp only [Act.put, List.setIfInBounds_toArray, List.set_cons_zero, List.set_cons_succ, i64_w, i32_w]
          rfl
        refine pure_ (i := 28) (N := some 55) (v := ?_) (a' := ?_) #[true, true, true, true, true, true, true, true, true, true, true, true, true, true, true, true, true, true, true, true, true, true, true, true, true, true, true, true, true] rfl rfl (any_of HT_.out (by kernel_rfl)) (fun _ _ _ h => h) (Or.inl ⟨by rfl, ?_⟩) ?_ ?_
        rotate_left
        · intro w'
          go_simp
          with_reducible rfl
        rotate_left
        · simp only [Act.put, List.setIfInBounds_toArray, List.set_cons_zero, List.set_cons_succ, i64_w, i32_w]
          rfl
        refine done_ (done_of HT_.out (by kernel_rfl)) ?_
        clear HT_ HW_ hHeld

        have HY : Aside0 (w4.heap[yb]? = some (.cells #[.int .u64 0, .int .u64 0, .int .i64 0, .int .i64 0, .slice none 0 0] 65 (0, 0))) := ⟨blk_below HY0.out HB.out⟩
        have n1_ := Aside0.mk (below_step HW0.out HB.out)
        clear HB
        have HB := n1_
        clear n1_
        go_upto_region 4 with (fail)
        refine start_ (n := 4) (S := fun w' => w'.cell? ⟨0, 0, none⟩ = some (.iface 91 (.pointer (some ge)))) (ds := []) #[false, false, false, false] (by kernel_rfl) rfl rfl (cell_below GE0.out (below_drew1 HB.out)) (fun hHeld => ?_)
        refine with_tabW log_read.R4.tab log_read.R4.bits (fun HT_ HW_ => ?_)
        have n1_ := Aside0.mk (below_drew1 HB.out)
        have n2_ := Aside0.mk (blk_drew HY.out)
        clear HB HY
        have HB := n1_
        have HY := n2_
        clear n1_ n2_
        generalize w4.drew = w4 at HB HY hHeld ⊢
        refine pure_ (i := 0) (N := some 56) (v := ?_) (a' := ?_) #[true, false, false, false] rfl rfl (any_of HT_.out (by kernel_rfl)) (fun _ _ _ h => h) (Or.inl ⟨by rfl, ?_⟩) ?_ ?_
        rotate_left
        · intro w'
          go_simp
          with_reducible rfl
        rotate_left
        · simp only [Act.put, List.setIfInBounds_toArray, List.set_cons_zero, List.set_cons_succ, i64_w, i32_w]
          rfl
        refine take_ (i := 1) (N := some 57) (v := ?_) (a' := ?_) #[true, true, false, false] rfl rfl (take_ofW HT_.out HW_.out (by kernel_rfl)) (fun _ _ _ h => h) (Or.inl ⟨by rfl, ?_⟩) hHeld ?_ ?_
        rotate_left
        · intro w' s0
          go_simp
          with_reducible rfl
        rotate_left
        · simp only [Act.put, List.setIfInBounds_toArray, List.set_cons_zero, List.set_cons_succ, i64_w, i32_w]
          rfl
        refine one_ (i := 2) (N := none) #[true, true, true, false] rfl rfl (one_of HT_.out (by kernel_rfl)) (by decide) (fun K hK => ?_)
        refine skip_ (w1 := w4.setRow yb #[.int .u64 0, .int .u64 0, .int .i64 0, .int .i64 0, .slice none 0 0]) (by rfl) rfl (store_row rfl rfl rfl HY.out info65s rfl (by simp [Value.oneCell'])) ?_
        have n0_ : Aside0 ((w4.setRow yb #[.int .u64 0, .int .u64 0, .int .i64 0, .int .i64 0, .slice none 0 0]).heap[yb]? = some (.cells #[.int .u64 0, .int .u64 0, .int .i64 0, .int .i64 0, .slice none 0 0] 65 (0, 0))) := ⟨setRow_heap _ _ _ _ 65 (0, 0) HY.out⟩
        have n1_ := Aside0.mk (below_setRow HB.out YBL.out #[.int .u64 0, .int .u64 0, .int .i64 0, .int .i64 0, .slice none 0 0])
        clear HY HB
        have HY := n0_
        have HB := n1_
        clear n0_ n1_
        generalize w4.setRow yb #[.int .u64 0, .int .u64 0, .int .i64 0, .int .i64 0, .slice none 0 0] = w4 at HY HB ⊢
        refine hK.out _ _ (cell_below GE0.out HB.out) (fun hHeld => ?_)
        clear hK K
        refine pure_ (i := 3) (N := some 3) (v := ?_) (a' := ?_) #[true, true, true, true] rfl rfl (any_of HT_.out (by kernel_rfl)) (fun _ _ _ h => h) (Or.inl ⟨by rfl, ?_⟩) ?_ ?_
        rotate_left
        · intro w'
          go_simp
          with_reducible rfl
        rotate_left
        · simp only [Act.put, List.setIfInBounds_toArray, List.set_cons_zero, List.set_cons_succ, i64_w, i32_w]
          rfl
        refine done_ (done_of HT_.out (by kernel_rfl)) ?_
        clear HT_ HW_ hHeld
        go_wp2
        (try simp only [Exit.inBlock, Exit.then])
        refine bodyPost_ret (results_ct rfl _ _ yb 65 #[.int .u64 0, .int .u64 0, .int .i64 0, .int .i64 0, .slice none 0 0] (0, 0) _ rfl HY.out hu65 rfl info65s) rfl ?_
        rw [HRV.out, if_pos (by exact Or.inr (Or.inr HCC.out))]
        exact ⟨rfl, HB.out⟩

    · have HBB := Aside0.mk kB
      have Ba : (m = tm) = False := eq_false kB
      have Bb : (m == tm) = false := by simp [kB]
      have Bc : (m != tm) = true := by simp [kB]
      have Bd : decide (m = tm) = false := decide_eq_false kB
      clear kB
      refine start_ (n := 29) (S := fun w' => w'.cell? ⟨xb, 0, none⟩ = some (.int .u64 m)) (ds := []) #[false, false, false, false, false, false, false, false, false, false, false, false, false, false, false, false, false, false, false, false, false, false, false, false, false, false, false, false, false] (by kernel_rfl) rfl rfl ((blk_cell HX.out 0).trans rfl) (fun hHeld => ?_)
      refine with_tabW log_read.R3.tab log_read.R3.bits (fun HT_ HW_ => ?_)
      have n1_ := Aside0.mk (below_drew1 HB.out)
      have n2_ := Aside0.mk (blk_drew HX.out)
      clear HB HX
      have HB := n1_
      have HX := n2_
      clear n1_ n2_
      generalize w4.drew = w4 at HB HX hHeld ⊢
      refine pure_ (i := 0) (N := some 27) (v := ?_) (a' := ?_) #[true, false, false, false, false, false, false, false, false, false, false, false, false, false, false, false, false, false, false, false, false, false, false, false, false, false, false, false, false] rfl rfl (any_of HT_.out (by kernel_rfl)) (fun _ _ _ h => h) (Or.inl ⟨by rfl, ?_⟩) ?_ ?_
      rotate_left
      · intro w'
        go_simp
        with_reducible rfl
      rotate_left
      · simp only [Act.put, List.setIfInBounds_toArray, List.set_cons_zero, List.set_cons_succ, i64_w, i32_w]
        rfl
      refine take_ (i := 1) (N := some 28) (v := ?_) (a' := ?_) #[true, true, false, false, false, false, false, false, false, false, false, false, false, false, false, false, false, false, false, false, false, false, false, false, false, false, false, false, false] rfl rfl (take_ofW HT_.out HW_.out (by kernel_rfl)) (fun _ _ _ h => h) (Or.inl ⟨by rfl, ?_⟩) hHeld ?_ ?_
      rotate_left
      · intro w' s0
        go_simp
        with_reducible rfl
      rotate_left
      · simp only [Act.put, List.setIfInBounds_toArray, List.set_cons_zero, List.set_cons_succ, i64_w, i32_w]
        rfl
      refine pure_ (i := 2) (N := some 29) (v := ?_) (a' := ?_) #[true, true, true, false, false, false, false, false, false, false, false, false, false, false, false, false, false, false, false, false, false, false, false, false, false, false, false, false, false] rfl rfl (any_of HT_.out (by kernel_rfl)) (fun _ _ _ h => h) (Or.inl ⟨by rfl, ?_⟩) ?_ ?_
      rotate_left
      · intro w'
        go_simp
        with_reducible rfl
      rotate_left
      · simp only [Act.put, List.setIfInBounds_toArray, List.set_cons_zero, List.set_cons_succ, i64_w, i32_w]
        rfl
      refine pure_ (i := 3) (N := some 30) (v := ?_) (a' := ?_) #[true, true, true, true, false, false, false, false, false, false, false, false, false, false, false, false, false, false, false, false, false, false, false, false, false, false, false, false, false] rfl rfl (any_of HT_.out (by kernel_rfl)) (fun _ _ _ h => h) (Or.inl ⟨by rfl, ?_⟩) ?_ ?_
      rotate_left
      · intro w'
        go_simp
        with_reducible rfl
      rotate_left
      · simp only [Act.put, List.setIfInBounds_toArray, List.set_cons_zero, List.set_cons_succ, i64_w, i32_w]
        rfl
      refine pure_ (i := 4) (N := some 31) (v := ?_) (a' := ?_) #[true, true, true, true, true, false, false, false, false, false, false, false, false, false, false, false, false, false, false, false, false, false, false, false, false, false, false, false, false] rfl rfl (any_of HT_.out (by kernel_rfl)) (fun _ _ _ h => h) (Or.inl ⟨by rfl, ?_⟩) ?_ ?_
      rotate_left
      · intro w'
        go_simp
        with_reducible rfl
      rotate_left
      · simp only [Act.put, List.setIfInBounds_toArray, List.set_cons_zero, List.set_cons_succ, i64_w, i32_w]
        rfl
      refine pure_ (i := 6) (N := some 33) (v := ?_) (a' := ?_) #[true, true, true, true, true, false, true, false, false, false, false, false, false, false, false, false, false, false, false, false, false, false, false, false, false, false, false, false, false] rfl rfl (any_of HT_.out (by kernel_rfl)) (fun _ _ _ h => h) (Or.inl ⟨by rfl, ?_⟩) ?_ ?_
      rotate_left
      · intro w'
        go_simp
        with_reducible rfl
      rotate_left
      · simp only [Act.put, List.setIfInBounds_toArray, List.set_cons_zero, List.set_cons_succ, i64_w, i32_w]
        rfl
      refine pure_ (i := 7) (N := some 34) (v := ?_) (a' := ?_) #[true, true, true, true, true, false, true, true, false, false, false, false, false, false, false, false, false, false, false, false, false, false, false, false, false, false, false, false, false] rfl rfl (any_of HT_.out (by kernel_rfl)) (fun _ _ _ h => h) (Or.inl ⟨by rfl, ?_⟩) ?_ ?_
      rotate_left
      · intro w'
        go_simp
        with_reducible rfl
      rotate_left
      · simp only [Act.put, List.setIfInBounds_toArray, List.set_cons_zero, List.set_cons_succ, i64_w, i32_w]
        rfl
      refine pure_ (i := 8) (N := some 35) (v := ?_) (a' := ?_) #[true, true, true, true, true, false, true, true, true, false, false, false, false, false, false, false, false, false, false, false, false, false, false, false, false, false, false, false, false] rfl rfl (any_of HT_.out (by kernel_rfl)) (fun _ _ _ h => h) (Or.inl ⟨by rfl, ?_⟩) ?_ ?_
      rotate_left
      · intro w'
        go_simp
        with_reducible rfl
      rotate_left
      · simp only [Act.put, List.setIfInBounds_toArray, List.set_cons_zero, List.set_cons_succ, i64_w, i32_w]
        rfl
      refine pure_ (i := 9) (N := some 36) (v := ?_) (a' := ?_) #[true, true, true, true, true, false, true, true, true, true, false, false, false, false, false, false, false, false, false, false, false, false, false, false, false, false, false, false, false] rfl rfl (any_of HT_.out (by kernel_rfl)) (fun _ _ _ h => h) (Or.inl ⟨by rfl, ?_⟩) ?_ ?_
      rotate_left
      · intro w'
        go_simp
        with_reducible rfl
      rotate_left
      · simp only [Act.put, List.setIfInBounds_toArray, List.set_cons_zero, List.set_cons_succ, i64_w, i32_w]
        rfl
      refine take_ (i := 5) (N := some 32) (v := ?_) (a' := ?_) #[true, true, true, true, true, true, true, true, true, true, false, false, false, false, false, false, false, false, false, false, false, false, false, false, false, false, false, false, false] rfl rfl (take_ofW HT_.out HW_.out (by kernel_rfl)) (fun _ _ _ h => h) (Or.inl ⟨by rfl, ?_⟩) hHeld ?_ ?_
      rotate_left
      · intro w' s0
        go_simp
        with_reducible rfl
      rotate_left
      · simp only [Act.put, List.setIfInBounds_toArray, List.set_cons_zero, List.set_cons_succ, i64_w, i32_w]
        rfl
      refine one_ (i := 10) (N := some 37) #[true, true, true, true, true, true, true, true, true, true, true, false, false, false, false, false, false, false, false, false, false, false, false, false, false, false, false, false, false] rfl rfl (one_of HT_.out (by kernel_rfl)) (by decide) (fun K hK => ?_)
      refine goes_ Tryd.func31 (by kernel_rfl) rfl #[.slice (some ⟨c, (s - 8), none⟩) 8 8] (by rfl) rfl rfl (by first | rfl | (go_simp; done)) ?_
      refine (lg_getv (blk_below HC.out HB.out) IB.out (by rw [LN.out.1]; have := LN.out; omega) (s - 8) 8 8 (by rw [LN.out.1]; have := LN.out; omega) (by decide) (by have := LN.out; omega) VT.out).mono ?_
      rintro e w5 ⟨rfl, ⟨nd, rfl⟩⟩
      refine ⟨_, rfl, ?_⟩
      have n1_ := Aside0.mk (pw_below_drewN HB.out nd)
      have n2_ := Aside0.mk (blk_drewN HX.out nd)
      clear HB HX
      have HB := n1_
      have HX := n2_
      clear n1_ n2_
      generalize w4.drewN nd = w4 at HB HX ⊢
      refine hK.out _ _ ((blk_cell HX.out 0).trans rfl) (fun hHeld => ?_)
      clear hK K
      refine norm_ (a' := ?_) ?_ ?_
      rotate_left
      · show Act.put _ (some 37) _ = _
        simp only [Act.put, List.setIfInBounds_toArray, List.set_cons_zero, List.set_cons_succ, i64_w, i32_w]
        rfl
      refine pure_ (i := 11) (N := some 38) (v := ?_) (a' := ?_) #[true, true, true, true, true, true, true, true, true, true, true, true, false, false, false, false, false, false, false, false, false, false, false, false, false, false, false, false, false] rfl rfl (any_of HT_.out (by kernel_rfl)) (fun _ _ _ h => h) (Or.inl ⟨by rfl, ?_⟩) ?_ ?_
      rotate_left
      · intro w'
        go_simp
        with_reducible rfl
      rotate_left
      · simp only [Act.put, List.setIfInBounds_toArray, List.set_cons_zero, List.set_cons_succ, i64_w, i32_w]
        rfl
      refine pure_ (i := 12) (N := some 39) (v := ?_) (a' := ?_) #[true, true, true, true, true, true, true, true, true, true, true, true, true, false, false, false, false, false, false, false, false, false, false, false, false, false, false, false, false] rfl rfl (any_of HT_.out (by kernel_rfl)) (fun _ _ _ h => h) (Or.inl ⟨by rfl, ?_⟩) ?_ ?_
      rotate_left
      · intro w'
        go_simp
        with_reducible rfl
      rotate_left
      · simp only [Act.put, List.setIfInBounds_toArray, List.set_cons_zero, List.set_cons_succ, i64_w, i32_w]
        rfl
      refine pure_ (i := 13) (N := some 40) (v := ?_) (a' := ?_) #[true, true, true, true, true, true, true, true, true, true, true, true, true, true, false, false, false, false, false, false, false, false, false, false, false, false, false, false, false] rfl rfl (any_of HT_.out (by kernel_rfl)) (fun _ _ _ h => h) (Or.inl ⟨by rfl, ?_⟩) ?_ ?_
      rotate_left
      · intro w'
        go_simp
        with_reducible rfl
      rotate_left
      · simp only [Act.put, List.setIfInBounds_toArray, List.set_cons_zero, List.set_cons_succ, i64_w, i32_w]
        rfl
      refine pure_ (i := 14) (N := some 41) (v := undef) (a' := ?_) #[true, true, true, true, true, true, true, true, true, true, true, true, true, true, true, false, false, false, false, false, false, false, false, false, false, false, false, false, false] rfl rfl (any_of HT_.out (by kernel_rfl)) (fun _ _ _ h => h) (Or.inr ⟨by rfl, rfl⟩) ?_ ?_
      rotate_left
      · simp only [Act.put, List.setIfInBounds_toArray, List.set_cons_zero, List.set_cons_succ, i64_w, i32_w]
        rfl
      refine pure_ (i := 15) (N := some 42) (v := undef) (a' := ?_) #[true, true, true, true, true, true, true, true, true, true, true, true, true, true, true, true, false, false, false, false, false, false, false, false, false, false, false, false, false] rfl rfl (any_of HT_.out (by kernel_rfl)) (fun _ _ _ h => h) (Or.inr ⟨by rfl, rfl⟩) ?_ ?_
      rotate_left
      · simp only [Act.put, List.setIfInBounds_toArray, List.set_cons_zero, List.set_cons_succ, i64_w, i32_w]
        rfl
      refine pure_ (i := 16) (N := some 43) (v := undef) (a' := ?_) #[true, true, true, true, true, true, true, true, true, true, true, true, true, true, true, true, true, false, false, false, false, false, false, false, false, false, false, false, false] rfl rfl (any_of HT_.out (by kernel_rfl)) (fun _ _ _ h => h) (Or.inr ⟨by rfl, rfl⟩) ?_ ?_
      rotate_left
      · simp only [Act.put, List.setIfInBounds_toArray, List.set_cons_zero, List.set_cons_succ, i64_w, i32_w]
        rfl
      refine pure_ (i := 17) (N := some 44) (v := undef) (a' := ?_) #[true, true, true, true, true, true, true, true, true, true, true, true, true, true, true, true, true, true, false, false, false, false, false, false, false, false, false, false, false] rfl rfl (any_of HT_.out (by kernel_rfl)) (fun _ _ _ h => h) (Or.inr ⟨by rfl, rfl⟩) ?_ ?_
      rotate_left
      · simp only [Act.put, List.setIfInBounds_toArray, List.set_cons_zero, List.set_cons_succ, i64_w, i32_w]
        rfl
      refine pure_ (i := 18) (N := some 45) (v := undef) (a' := ?_) #[true, true, true, true, true, true, true, true, true, true, true, true, true, true, true, true, true, true, true, false, false, false, false, false, false, false, false, false, false] rfl rfl (any_of HT_.out (by kernel_rfl)) (fun _ _ _ h => h) (Or.inr ⟨by rfl, rfl⟩) ?_ ?_
      rotate_left
      · simp only [Act.put, List.setIfInBounds_toArray, List.set_cons_zero, List.set_cons_succ, i64_w, i32_w]
        rfl
      refine pure_ (i := 19) (N := some 46) (v := undef) (a' := ?_) #[true, true, true, true, true, true, true, true, true, true, true, true, true, true, true, true, true, true, true, true, false, false, false, false, false, false, false, false, false] rfl rfl (any_of HT_.out (by kernel_rfl)) (fun _ _ _ h => h) (Or.inr ⟨by rfl, rfl⟩) ?_ ?_
      rotate_left
      · simp only [Act.put, List.setIfInBounds_toArray, List.set_cons_zero, List.set_cons_succ, i64_w, i32_w]
        rfl
      refine pure_ (i := 20) (N := some 47) (v := undef) (a' := ?_) #[true, true, true, true, true, true, true, true, true, true, true, true, true, true, true, true, true, true, true, true, true, false, false, false, false, false, false, false, false] rfl rfl (any_of HT_.out (by kernel_rfl)) (fun _ _ _ h => h) (Or.inr ⟨by rfl, rfl⟩) ?_ ?_
      rotate_left
      · simp only [Act.put, List.setIfInBounds_toArray, List.set_cons_zero, List.set_cons_succ, i64_w, i32_w]
        rfl
      refine pure_ (i := 21) (N := some 48) (v := undef) (a' := ?_) #[true, true, true, true, true, true, true, true, true, true, true, true, true, true, true, true, true, true, true, true, true, true, false, false, false, false, false, false, false] rfl rfl (any_of HT_.out (by kernel_rfl)) (fun _ _ _ h => h) (Or.inr ⟨by rfl, rfl⟩) ?_ ?_
      rotate_left
      · simp only [Act.put, List.setIfInBounds_toArray, List.set_cons_zero, List.set_cons_succ, i64_w, i32_w]
        rfl
      refine pure_ (i := 22) (N := some 49) (v := undef) (a' := ?_) #[true, true, true, true, true, true, true, true, true, true, true, true, true, true, true, true, true, true, true, true, true, true, true, false, false, false, false, false, false] rfl rfl (any_of HT_.out (by kernel_rfl)) (fun _ _ _ h => h) (Or.inr ⟨by rfl, rfl⟩) ?_ ?_
      rotate_left
      · simp only [Act.put, List.setIfInBounds_toArray, List.set_cons_zero, List.set_cons_succ, i64_w, i32_w]
        rfl
      refine pure_ (i := 23) (N := some 50) (v := undef) (a' := ?_) #[true, true, true, true, true, true, true, true, true, true, true, true, true, true, true, true, true, true, true, true, true, true, true, true, false, false, false, false, false] rfl rfl (any_of HT_.out (by kernel_rfl)) (fun _ _ _ h => h) (Or.inr ⟨by rfl, rfl⟩) ?_ ?_
      rotate_left
      · simp only [Act.put, List.setIfInBounds_toArray, List.set_cons_zero, List.set_cons_succ, i64_w, i32_w]
        rfl
      refine pure_ (i := 24) (N := some 51) (v := undef) (a' := ?_) #[true, true, true, true, true, true, true, true, true, true, true, true, true, true, true, true, true, true, true, true, true, true, true, true, true, false, false, false, false] rfl rfl (any_of HT_.out (by kernel_rfl)) (fun _ _ _ h => h) (Or.inr ⟨by rfl, rfl⟩) ?_ ?_
      rotate_left
      · simp only [Act.put, List.setIfInBounds_toArray, List.set_cons_zero, List.set_cons_succ, i64_w, i32_w]
        rfl
      refine pure_ (i := 25) (N := some 52) (v := undef) (a' := ?_) #[true, true, true, true, true, true, true, true, true, true, true, true, true, true, true, true, true, true, true, true, true, true, true, true, true, true, false, false, false] rfl rfl (any_of HT_.out (by kernel_rfl)) (fun _ _ _ h => h) (Or.inr ⟨by rfl, rfl⟩) ?_ ?_
      rotate_left
      · simp only [Act.put, List.setIfInBounds_toArray, List.set_cons_zero, List.set_cons_succ, i64_w, i32_w]
        rfl
      refine pure_ (i := 26) (N := some 53) (v := undef) (a' := ?_) #[true, true, true, true, true, true, true, true, true, true, true, true, true, true, true, true, true, true, true, true, true, true, true, true, true, true, true, false, false] rfl rfl (any_of HT_.out (by kernel_rfl)) (fun _ _ _ h => h) (Or.inr ⟨by rfl, rfl⟩) ?_ ?_
      rotate_left
      · simp only [Act.put, List.setIfInBounds_toArray, List.set_cons_zero, List.set_cons_succ, i64_w, i32_w]
        rfl
      refine pure_ (i := 27) (N := some 54) (v := undef) (a' := ?_) #[true, true, true, true, true, true, true, true, true, true, true, true, true, true, true, true, true, true, true, true, true, true, true, true, true, true, true, true, false] rfl rfl (any_of HT_.out (by kernel_rfl)) (fun _ _ _ h => h) (Or.inr ⟨by rfl, rfl⟩) ?_ ?_
      rotate_left
      · simp only [Act.put, List.setIfInBounds_toArray, List.set_cons_zero, List.set_cons_succ, i64_w, i32_w]
        rfl
      refine pure_ (i := 28) (N := some 55) (v := ?_) (a' := ?_) #[true, true, true, true, true, true, true, true, true, true, true, true, true, true, true, true, true, true, true, true, true, true, true, true, true, true, true, true, true] rfl rfl (any_of HT_.out (by kernel_rfl)) (fun _ _ _ h => h) (Or.inl ⟨by rfl, ?_⟩) ?_ ?_
      rotate_left
      · intro w'
        go_simp
        with_reducible rfl
      rotate_left
      · simp only [Act.put, List.setIfInBounds_toArray, List.set_cons_zero, List.set_cons_succ, i64_w, i32_w]
        rfl
      refine done_ (done_of HT_.out (by kernel_rfl)) ?_
      clear HT_ HW_ hHeld

      have HY : Aside0 (w4.heap[yb]? = some (.cells #[.int .u64 0, .int .u64 0, .int .i64 0, .int .i64 0, .slice none 0 0] 65 (0, 0))) := ⟨blk_below HY0.out HB.out⟩
      have n1_ := Aside0.mk (below_step HW0.out HB.out)
      clear HB
      have HB := n1_
      clear n1_
      go_upto_region 4 with (fail)
      refine start_ (n := 4) (S := fun w' => w'.cell? ⟨0, 0, none⟩ = some (.iface 91 (.pointer (some ge)))) (ds := []) #[false, false, false, false] (by kernel_rfl) rfl rfl (cell_below GE0.out (below_drew1 HB.out)) (fun hHeld => ?_)
      refine with_tabW log_read.R4.tab log_read.R4.bits (fun HT_ HW_ => ?_)
      have n1_ := Aside0.mk (below_drew1 HB.out)
      have n2_ := Aside0.mk (blk_drew HY.out)
      clear HB HY
      have HB := n1_
      have HY := n2_
      clear n1_ n2_
      generalize w4.drew = w4 at HB HY hHeld ⊢
      refine pure_ (i := 0) (N := some 56) (v := ?_) (a' := ?_) #[true, false, false, false] rfl rfl (any_of HT_.out (by kernel_rfl)) (fun _ _ _ h => h) (Or.inl ⟨by rfl, ?_⟩) ?_ ?_
      rotate_left
      · intro w'
        go_simp
        with_reducible rfl
      rotate_left
      · simp only [Act.put, List.setIfInBounds_toArray, List.set_cons_zero, List.set_cons_succ, i64_w, i32_w]
        rfl
      refine take_ (i := 1) (N := some 57) (v := ?_) (a' := ?_) #[true, true, false, false] rfl rfl (take_ofW HT_.out HW_.out (by kernel_rfl)) (fun _ _ _ h => h) (Or.inl ⟨by rfl, ?_⟩) hHeld ?_ ?_
      rotate_left
      · intro w' s0
        go_simp
        with_reducible rfl
      rotate_left
      · simp only [Act.put, List.setIfInBounds_toArray, List.set_cons_zero, List.set_cons_succ, i64_w, i32_w]
        rfl
      refine one_ (i := 2) (N := none) #[true, true, true, false] rfl rfl (one_of HT_.out (by kernel_rfl)) (by decide) (fun K hK => ?_)
      refine skip_ (w1 := w4.setRow yb #[.int .u64 0, .int .u64 0, .int .i64 0, .int .i64 0, .slice none 0 0]) (by rfl) rfl (store_row rfl rfl rfl HY.out info65s rfl (by simp [Value.oneCell'])) ?_
      have n0_ : Aside0 ((w4.setRow yb #[.int .u64 0, .int .u64 0, .int .i64 0, .int .i64 0, .slice none 0 0]).heap[yb]? = some (.cells #[.int .u64 0, .int .u64 0, .int .i64 0, .int .i64 0, .slice none 0 0] 65 (0, 0))) := ⟨setRow_heap _ _ _ _ 65 (0, 0) HY.out⟩
      have n1_ := Aside0.mk (below_setRow HB.out YBL.out #[.int .u64 0, .int .u64 0, .int .i64 0, .int .i64 0, .slice none 0 0])
      clear HY HB
      have HY := n0_
      have HB := n1_
      clear n0_ n1_
      generalize w4.setRow yb #[.int .u64 0, .int .u64 0, .int .i64 0, .int .i64 0, .slice none 0 0] = w4 at HY HB ⊢
      refine hK.out _ _ (cell_below GE0.out HB.out) (fun hHeld => ?_)
      clear hK K
      refine pure_ (i := 3) (N := some 3) (v := ?_) (a' := ?_) #[true, true, true, true] rfl rfl (any_of HT_.out (by kernel_rfl)) (fun _ _ _ h => h) (Or.inl ⟨by rfl, ?_⟩) ?_ ?_
      rotate_left
      · intro w'
        go_simp
        with_reducible rfl
      rotate_left
      · simp only [Act.put, List.setIfInBounds_toArray, List.set_cons_zero, List.set_cons_succ, i64_w, i32_w]
        rfl
      refine done_ (done_of HT_.out (by kernel_rfl)) ?_
      clear HT_ HW_ hHeld
      go_wp2
      (try simp only [Exit.inBlock, Exit.then])
      refine bodyPost_ret (results_ct rfl _ _ yb 65 #[.int .u64 0, .int .u64 0, .int .i64 0, .int .i64 0, .slice none 0 0] (0, 0) _ rfl HY.out hu65 rfl info65s) rfl ?_
      rw [HRV.out, if_pos (by exact Or.inr (Or.inl HBB.out))]
      exact ⟨rfl, HB.out⟩

end Go.Proofs.YtgeggcifhojpmaaDoor.PB
/- Plain: what read and record tell of blocks' bytes; read's contract in those words. -/
namespace Go.Proofs.YtgeggcifhojpmaaDoor.PB
open Go.RowKit Go.Proofs.YtgeggcifhojpmaaDoorW.PrintWords Go.Proofs.YtgeggcifhojpmaaDoorW.PrintLast Go.Proofs.YtgeggcifhojpmaaDoorW.PrintMore
attribute [local go_sem] max2_mx min2_mn max_two min_two max_three min_three max_four min_four   -- for this text's walks alone
set_option linter.unusedVariables false
set_option linter.unusedSimpArgs false

theorem wrapN (n : Nat) (h : n ≤ 4611686018427387904) : wrap64 (n : Int) = (n : Int) := by unfold wrap64; omega
/-- A block that is whole: its mark, the record's number, the record's length, which of its blocks, its bytes. -/
structure Blk where
  m : Int
  r : Int
  ln : Int
  i : Int
  b : List Int
def lgRead (l : List Int) : Option Blk :=
  if un ((l.drop 0).take 8) = 0 ∨ un ((l.drop 0).take 8) ≠ un ((l.drop (l.length - 8)).take 8) ∨ un ((l.drop (l.length - 12)).take 4) ≠ crcF (l.take (l.length - 12)) then none
  else some ⟨un ((l.drop 0).take 8), un ((l.drop 8).take 8), un ((l.drop 16).take 4), un ((l.drop 20).take 4), (l.drop 24).take (l.length - 36)⟩
/-- The rest of a record: its i-th block is k. -/
def lgRecL (s : Nat) (B : List (List Int)) (first : Nat) (m : Int) : Nat → Nat → Int → List Int → List Int → Option (Option (List Int))
  | 0, _, _, _, _ => none
  | fuel + 1, i, ln, kb, out =>
    if mn (ln - (out.length : Int)) ((s - 36 : Nat) : Int) < 0 then none
    else if (((out ++ kb.take (mn (ln - (out.length : Int)) ((s - 36 : Nat) : Int)).toNat).length : Nat) : Int) = ln then some (some (out ++ kb.take (mn (ln - (out.length : Int)) ((s - 36 : Nat) : Int)).toNat))
    else match B[first + i + 1]? with
      | none => none
      | some l => match lgRead l with
        | none => some none
        | some k => if k.m ≠ m ∨ k.i ≠ (i : Int) + 1 then some none else lgRecL s B first m fuel (i + 1) k.ln k.b (out ++ kb.take (mn (ln - (out.length : Int)) ((s - 36 : Nat) : Int)).toNat)
/-- A slot's record: its mark, its number, its bytes. -/
def lgRec (s n : Nat) (B : List (List Int)) (slot : Nat) : Option (Option (Int × Int × List Int)) :=
  match B[slot * (n / 2)]? with
  | none => none
  | some l => match lgRead l with
    | none => some none
    | some k => if k.i ≠ 0 ∨ (lgRoom n s : Int) < k.ln then some none else (lgRecL s B (slot * (n / 2)) k.m 64 0 k.ln k.b []).map (Option.map fun d => (k.m, k.r, d))
theorem lgRead_some {l : List Int} {k : Blk} (h : lgRead l = some k) (h36 : 36 ≤ l.length) (hb : IsB l) : k.m = un ((l.drop 0).take 8) ∧ k.r = un ((l.drop 8).take 8) ∧ k.ln = un ((l.drop 16).take 4) ∧ k.i = un ((l.drop 20).take 4) ∧ k.b = (l.drop 24).take (l.length - 36) ∧ 0 ≤ k.ln ∧ k.ln < 4294967296 ∧ 0 ≤ k.i ∧ k.i < 4294967296 := by
  have q4 : ∀ o, 0 ≤ un ((l.drop o).take 4) ∧ un ((l.drop o).take 4) < 4294967296 := fun o => by
    have h1 := un_range ((l.drop o).take 4) ((hb.drop o).take 4)
    have h2 : 256 ^ ((l.drop o).take 4).length ≤ 256 ^ 4 := Nat.pow_le_pow_right (by decide) (by rw [List.length_take]; omega)
    have h3 : 256 ^ 4 = 4294967296 := by decide
    omega
  unfold lgRead at h
  split at h
  · cases h
  · obtain rfl := Option.some.inj h
    exact ⟨rfl, rfl, rfl, rfl, rfl, (q4 16).1, (q4 16).2, (q4 20).1, (q4 20).2⟩
theorem log_read.no {w : World} {c s : Nat} {l : List Int} (hc : w.heap[c]? = some (.cells (dkB l) 5 (0, 0))) (ib : IsB l) (hl : l.length = s) (h36 : 36 ≤ s) (hs : s ≤ 65536) (ge : Addr) (hge : w.cell? ⟨0, 0, none⟩ = some (.iface 91 (.pointer (some ge)))) (h : lgRead l = none) :
    Calls Tryd.prog 38 #[.slice (some ⟨c, 0, none⟩) s s] w fun e w' => e = .returned (.tuple #[.agg #[.int .u64 0, .int .u64 0, .int .i64 0, .int .i64 0, .slice none 0 0], .iface 91 (.pointer (some ge))]) ∧ Below w.heap.size w w' := by
  subst hl
  refine log_read.calls hc ib rfl h36 hs ge hge _ _ _ _ _ _ _ rfl rfl rfl rfl rfl rfl rfl _ ?_
  unfold lgRead at h
  split at h
  · rename_i h2
    rw [if_pos h2]
  · cases h
theorem log_read.yes {w : World} {c s : Nat} {l : List Int} (hc : w.heap[c]? = some (.cells (dkB l) 5 (0, 0))) (ib : IsB l) (hl : l.length = s) (h36 : 36 ≤ s) (hs : s ≤ 65536) (ge : Addr) (hge : w.cell? ⟨0, 0, none⟩ = some (.iface 91 (.pointer (some ge)))) {k : Blk} (h : lgRead l = some k) :
    Calls Tryd.prog 38 #[.slice (some ⟨c, 0, none⟩) s s] w fun e w' => e = .returned (.tuple #[.agg #[.int .u64 k.m, .int .u64 k.r, .int .i64 k.ln, .int .i64 k.i, .slice (some ⟨c, 24, none⟩) (s - 36) (s - 24)], .nilIface]) ∧ Below w.heap.size w w' := by
  subst hl
  refine log_read.calls hc ib rfl h36 hs ge hge _ _ _ _ _ _ _ rfl rfl rfl rfl rfl rfl rfl _ ?_
  unfold lgRead at h
  split at h
  · cases h
  · rename_i h2
    rw [if_neg h2]
    obtain rfl := Option.some.inj h
    rfl
/-- A row of slices at rb: its blocks cs, each with s bytes, what is in them bs. -/
structure RB (w : World) (rb s : Nat) (cs : List Nat) (bs : List (List Int)) : Prop where
  cell : ∀ (j c : Nat), cs[j]? = some c → w.cell? ⟨rb, j, none⟩ = some (.slice (some ⟨c, 0, none⟩) s s)
  len : bs.length = cs.length
  each : ∀ (j c : Nat) (l : List Int), cs[j]? = some c → bs[j]? = some l → l.length = s ∧ IsB l ∧ w.heap[c]? = some (.cells (dkB l) 5 (0, 0))
theorem RB.below {w w' : World} {rb s : Nat} {cs : List Nat} {bs : List (List Int)} (h : RB w rb s cs bs) (hb : Below w.heap.size w w') : RB w' rb s cs bs :=
  ⟨fun j c hj => cell_below (h.cell j c hj) hb, h.len, fun j c l hj hl => ⟨(h.each j c l hj hl).1, (h.each j c l hj hl).2.1, blk_below (h.each j c l hj hl).2.2 hb⟩⟩
theorem RB.at {w : World} {rb s : Nat} {cs : List Nat} {bs : List (List Int)} (h : RB w rb s cs bs) {j : Nat} {l : List Int} (hl : bs[j]? = some l) : ∃ c, cs[j]? = some c ∧ w.cell? ⟨rb, j, none⟩ = some (.slice (some ⟨c, 0, none⟩) s s) ∧ l.length = s ∧ IsB l ∧ w.heap[c]? = some (.cells (dkB l) 5 (0, 0)) := by
  have hj : j < cs.length := by rw [← h.len]; exact (List.getElem?_eq_some_iff.1 hl).1
  have hc : cs[j]? = some cs[j] := List.getElem?_eq_getElem hj
  exact ⟨_, hc, h.cell j _ hc, h.each j _ l hc hl⟩
theorem DK.under {w w' : World} {base g h s : Nat} {hs : List Nat} {bs : List (List Int)} {cut pre : Int} {dead : Bool} (hd : DK w base g h s hs bs cut pre dead) (hb : Below w.heap.size w w') : DK w' base g h s hs bs cut pre dead := hd.kept (S := fun _ => False) (DF.of_below hb) id id (fun _ _ => id)
end Go.Proofs.YtgeggcifhojpmaaDoor.PB
