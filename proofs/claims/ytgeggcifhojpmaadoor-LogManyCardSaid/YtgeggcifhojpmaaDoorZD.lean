/- Texts of this claim, merged: DiskWords, DiskNew, DiskOps, DiskRW. -/
import Derived.Test.YtgeggcifhojpmaaDoorZP
import Derived.Laws.CopyRow
import Derived.Laws.MakeOwn
import Derived.Laws.CopyOwn
namespace Go.Proofs.YtgeggcifhojpmaaDoor.PB
open Go.RowKit Go.Proofs.YtgeggcifhojpmaaDoorW.PrintWords Go.Proofs.YtgeggcifhojpmaaDoorW.PrintLast Go.Proofs.YtgeggcifhojpmaaDoorW.PrintMore
attribute [local go_sem] max2_int min2_int max_two min_two max_three min_three max_four min_four   -- for this text's walks alone
set_option linter.unusedVariables false
set_option linter.unusedSimpArgs false

/-- The cells of a row of bytes; of a row of such rows, each of s bytes. -/
def dkB (l : List Int) : Array Value := (l.map (Value.int .u8)).toArray
def dkR (s : Nat) (hs : List Nat) : Array Value := (hs.map fun b => Value.slice (some ⟨b, 0, none⟩) s s).toArray
/-- A disk at block g: its blocks' row at block h, its blocks at hs, what is in them bs. -/
structure DK (W : World) (base g h s : Nat) (hs : List Nat) (bs : List (List Int)) (cut pre : Int) (dead : Bool) : Prop where
  top : W.heap[g]? = some (.cells #[.slice (some ⟨h, 0, none⟩) hs.length hs.length, .int .i64 cut, .int .i64 pre, .bool dead] 55 (0, 0))
  row : W.heap[h]? = some (.cells (dkR s hs) 22 (0, 0))
  len : bs.length = hs.length
  nodup : hs.Nodup
  each : ∀ (i b : Nat) (l : List Int), hs[i]? = some b → bs[i]? = some l → l.length = s ∧ W.heap[b]? = some (.cells (dkB l) 5 (0, 0))
  own : base ≤ g ∧ base ≤ h ∧ ∀ b ∈ hs, base ≤ b
theorem dkB_size (l : List Int) : (dkB l).size = l.length := by simp [dkB]
theorem dkR_size (s : Nat) (hs : List Nat) : (dkR s hs).size = hs.length := by simp [dkR]
theorem dkR_get {s : Nat} {hs : List Nat} {i b : Nat} (h : hs[i]? = some b) : (dkR s hs)[i]? = some (.slice (some ⟨b, 0, none⟩) s s) := by simp [dkR, h]
theorem made_int (n : Nat) : madeCells (Value.int .u8 0).cells (n * 1) = dkB (List.replicate n 0) := by
  apply Array.ext_getElem?
  intro i
  by_cases h : i < n
  · simp [madeCells, dkB, Value.cells, h, Nat.mod_one]
  · simp [madeCells, dkB, Value.cells, h]
theorem made_row (n : Nat) : madeCells (Value.slice none 0 0).cells (n * 1) = (List.replicate n (Value.slice none 0 0)).toArray := by
  apply Array.ext_getElem?
  intro i
  by_cases h : i < n
  · simp [madeCells, Value.cells, h, Nat.mod_one]
  · simp [madeCells, Value.cells, h]
theorem dk_make (s : Int) (h0 : 0 ≤ s) (h1 : s ≤ 1000000) (W : World) : (Instr.makeSlice 22 (.int .i64 s) (.int .i64 s)).run Tryd.prog W = .ok (.slice (some ⟨W.heap.size, 0, none⟩) s.toNat s.toNat) (W.alloc (.cells (dkB (List.replicate s.toNat 0)) 5)) := by
  obtain ⟨i, hi, hz, hs, hb⟩ := info_parts info5
  rw [run_make W 22 5 i (.int .u8 0) Tryd.underlying22 hi hz .i64 .i64 s s h0 (Int.le_refl _) (by rw [hb]; omega) (by omega), hs, made_int]
theorem dk_makes (n : Int) (h0 : 0 ≤ n) (h1 : n ≤ 1000000) (W : World) : (Instr.makeSlice 33 (.int .i64 n) (.int .i64 n)).run Tryd.prog W = .ok (.slice (some ⟨W.heap.size, 0, none⟩) n.toNat n.toNat) (W.alloc (.cells (List.replicate n.toNat (Value.slice none 0 0)).toArray 22)) := by
  obtain ⟨i, hi, hz, hs, hb⟩ : ∃ i : TypeInfo, Tryd.prog.info? 22 = some i ∧ i.zero = some (.slice none 0 0) ∧ i.size = 1 ∧ i.bytes = 24 := by
    have h6 : (Tryd.prog.info? 22).map (fun i => (i.zero, i.size, i.bytes)) = some (some (.slice none 0 0), 1, 24) := by kernel_rfl
    cases hq : Tryd.prog.info? 22 with
    | none => rw [hq] at h6; cases h6
    | some i =>
      rw [hq] at h6
      simp only [Option.map_some, Option.some.injEq, Prod.mk.injEq] at h6
      exact ⟨i, rfl, h6.1, h6.2.1, h6.2.2⟩
  rw [run_make W 33 22 i (.slice none 0 0) Tryd.underlying33 hi hz .i64 .i64 n n h0 (Int.le_refl _) (by rw [hb]; omega) (by omega), hs, made_row]
end Go.Proofs.YtgeggcifhojpmaaDoor.PB
namespace Go.Proofs.YtgeggcifhojpmaaDoor.PB
open Go.RowKit Go.Proofs.YtgeggcifhojpmaaDoorW.PrintWords Go.Proofs.YtgeggcifhojpmaaDoorW.PrintLast Go.Proofs.YtgeggcifhojpmaaDoorW.PrintMore
attribute [local go_sem] max2_int min2_int max_two min_two max_three min_three max_four min_four   -- for this text's walks alone
set_option linter.unusedVariables false
set_option linter.unusedSimpArgs false

/-- The row of rows while it is filled. -/
def dkF (s n : Nat) (hs : List Nat) : Array Value := ((hs.map fun b => Value.slice (some ⟨b, 0, none⟩) s s) ++ List.replicate (n - hs.length) (Value.slice none 0 0)).toArray
theorem dkF_step (s n : Nat) (hs : List Nat) (b : Nat) (h : hs.length < n) : (dkF s n hs).setIfInBounds hs.length (.slice (some ⟨b, 0, none⟩) s s) = dkF s n (hs ++ [b]) := by
  obtain ⟨m, hm⟩ : ∃ m, n - hs.length = m + 1 := ⟨n - hs.length - 1, by omega⟩
  have hm2 : n - (hs ++ [b]).length = m := by rw [List.length_append, List.length_singleton]; omega
  unfold dkF
  rw [hm, hm2, List.setIfInBounds_toArray, List.set_append_right _ _ (by simp), List.length_map, Nat.sub_self, List.replicate_succ, List.set_cons_zero]
  simp
theorem dkF_old (s n : Nat) (hs : List Nat) (h : hs.length < n) : (dkF s n hs)[hs.length]? = some (.slice none 0 0) := by
  obtain ⟨m, hm⟩ : ∃ m, n - hs.length = m + 1 := ⟨n - hs.length - 1, by omega⟩
  unfold dkF
  rw [hm, List.replicate_succ]
  simp
theorem dkF_end (s n : Nat) (hs : List Nat) (h : hs.length = n) : dkF s n hs = dkR s hs := by
  unfold dkF dkR
  rw [h, Nat.sub_self]
  simp
def dkN (a : Int) : Nat := (mn (mx a 1) 64).toNat
def dkS (a : Int) : Nat := (mn (mx a 64) 65536).toNat
theorem dkN_range (a : Int) : mn (mx a 1) 64 = (dkN a : Int) ∧ 1 ≤ dkN a ∧ dkN a ≤ 64 := by unfold dkN mn mx; split <;> split <;> omega
theorem dkS_range (a : Int) : mn (mx a 64) 65536 = (dkS a : Int) ∧ 64 ≤ dkS a ∧ dkS a ≤ 65536 := by unfold dkS mn mx; split <;> split <;> omega
def disk_New.T5 : Bool × List (List Nat × List Nat) := (true, [([], []), ([0], [0]), ([1], [1]), ([2], [2]), ([], []), ([], []), ([5], [5]), ([6, 6], [6]), ([3, 4, 0, 1, 2, 3, 4, 5, 6, 7], [3, 4]), ([8, 7, 6, 0, 1, 2, 3, 4, 5, 6, 7], [7, 8])])
def disk_New.B5 : List Nat := [0, 1, 3, 7, 0, 0, 32, 96, 255, 511]
theorem disk_New.tab5 : rtab .any (opsOf Tryd.f13 5) = disk_New.T5 := by kernel_rfl
theorem disk_New.bits5 : waitsOk disk_New.T5.2 disk_New.B5 = true := by kernel_rfl
set_option maxHeartbeats 4000000 in
set_option maxRecDepth 100000 in
theorem disk_New.calls (a0 a1 : Int) (w : World) : Calls Tryd.prog 13 #[.int .i64 a0, .int .i64 a1] w fun e w' => ∃ g h hs, e = .returned (.pointer (some ⟨g, 0, none⟩)) ∧ DK w' w.heap.size g h (dkS a1) hs (List.replicate (dkN a0) (List.replicate (dkS a1) 0)) (-1) 0 false ∧ hs.length = dkN a0 ∧ Below w.heap.size w w' := by
  have hu55 := Tryd.underlying55
  have HB := Aside0.mk (Below.refl w.heap.size w)
  obtain ⟨en, rn1, rn2⟩ := dkN_range a0
  obtain ⟨es, rs1, rs2⟩ := dkS_range a1
  have hmk0 := dk_makes (dkN a0 : Int) (by omega) (by omega)
  rw [Int.toNat_natCast] at hmk0
  have RN := Aside0.mk (And.intro rn1 rn2)
  have RS := Aside0.mk (And.intro rs1 rs2)
  have EN := Aside0.mk en
  have ES := Aside0.mk es
  clear rn1 rn2 rs1 rs2 en es
  go_enter Tryd.func13, Tryd.ntmps13
  go_wp2_with fail
  refine (disk_within.calls a0 1 64 (dkN a0 : Int) _ (by unfold disk_within.f; rw [EN.out])).mono ?_
  rintro e w1 ⟨rfl, hb⟩
  have n0_ := Aside0.mk (below_step (by repeat (first | (with_reducible first | exact HB.out | apply below_alloc | apply pw_below_drewN | apply below_drew1) | exact HB.out)) hb)
  clear HB hb
  have HB := n0_
  clear n0_
  (try dsimp only)
  go_upto_region 2 with (fail)
  obtain ⟨h, hh⟩ : ∃ h, h = w1.heap.size := ⟨_, rfl⟩
  obtain ⟨g, hg⟩ : ∃ g, g = w1.heap.size + 1 := ⟨_, rfl⟩
  have HS := below_size HB.out
  have GH := Aside0.mk (show w.heap.size ≤ h ∧ w.heap.size ≤ g ∧ h ≠ g by omega)
  have HT : Aside0 (((w1.alloc (.cells (Array.replicate (dkN a0) (Value.slice none 0 0)) 22)).alloc (.cells #[.slice (some ⟨w1.heap.size, 0, none⟩) (dkN a0) (dkN a0), .int .i64 (-1), .int .i64 0, .bool false] 55)).heap[g]? = some (.cells #[.slice (some ⟨h, 0, none⟩) (dkN a0) (dkN a0), .int .i64 (-1), .int .i64 0, .bool false] 55 (0, 0))) := ⟨by
    rw [hg, hh]
    have := blk_new (w1.alloc (.cells (Array.replicate (dkN a0) (Value.slice none 0 0)) 22)) (.cells #[.slice (some ⟨w1.heap.size, 0, none⟩) (dkN a0) (dkN a0), .int .i64 (-1), .int .i64 0, .bool false] 55)
    simpa using this⟩
  have HR : Aside0 (((w1.alloc (.cells (Array.replicate (dkN a0) (Value.slice none 0 0)) 22)).alloc (.cells #[.slice (some ⟨w1.heap.size, 0, none⟩) (dkN a0) (dkN a0), .int .i64 (-1), .int .i64 0, .bool false] 55)).heap[h]? = some (.cells (dkF (dkS a1) (dkN a0) []) 22 (0, 0))) := ⟨by
    rw [hh, show dkF (dkS a1) (dkN a0) [] = Array.replicate (dkN a0) (Value.slice none 0 0) from by simp [dkF]]
    exact blk_alloc (blk_new w1 _) _⟩
  have HB2 := Aside0.mk (below_alloc (below_alloc HB.out (.cells (Array.replicate (dkN a0) (Value.slice none 0 0)) 22)) (.cells #[.slice (some ⟨w1.heap.size, 0, none⟩) (dkN a0) (dkN a0), .int .i64 (-1), .int .i64 0, .bool false] 55))
  rw [← hh] at HT HR HB2 ⊢
  rw [show h + 1 = g by omega]
  generalize (w1.alloc (.cells (Array.replicate (dkN a0) (Value.slice none 0 0)) 22)).alloc (.cells #[.slice (some ⟨h, 0, none⟩) (dkN a0) (dkN a0), .int .i64 (-1), .int .i64 0, .bool false] 55) = w2 at HT HR HB2 ⊢
  clear HB hh hg HS hmk0
  have HB := HB2
  clear HB2
  have ht0 : w2.cell? ⟨g, 0, none⟩ = some (.slice (some ⟨h, 0, none⟩) (dkN a0) (dkN a0)) := (blk_cell HT.out 0).trans rfl
  go_wp2_with fail
  clear ht0
  go_loopg [17] (dkN a0) (fun kq v17 w' => ∃ (hs : List Nat), v17 = .int .i64 (hs.length : Int) ∧ Aside0 (kq + hs.length = dkN a0) ∧ Aside0 (w'.heap[g]? = some (.cells #[.slice (some ⟨h, 0, none⟩) (dkN a0) (dkN a0), .int .i64 (-1), .int .i64 0, .bool false] 55 (0, 0))) ∧ Aside0 (w'.heap[h]? = some (.cells (dkF (dkS a1) (dkN a0) hs) 22 (0, 0))) ∧ Aside0 (hs.Nodup ∧ ∀ b ∈ hs, w.heap.size ≤ b ∧ w'.heap[b]? = some (.cells (dkB (List.replicate (dkS a1) 0)) 5 (0, 0))) ∧ Aside0 (Below w.heap.size w w'))
  case atStart => exact ⟨[], rfl, ⟨rfl⟩, ⟨HT.out⟩, ⟨HR.out⟩, ⟨List.nodup_nil, fun _ hb => by cases hb⟩, ⟨HB.out⟩⟩
  case round =>
    clear HT HR HB
    obtain ⟨hs, rfl, Hk, HT, HR, HE, HB⟩ := hrel
    by_cases c6 : hs.length < dkN a0
    · have c6b : decide ((hs.length : Int) < (dkN a0 : Int)) = true := decide_eq_true (by omega)
      have c6c : decide (hs.length < dkN a0) = true := decide_eq_true c6
      have H6 := Aside0.mk c6
      clear c6
      go_upto_region 5 with (fail)
      have hmk1 := dk_make (dkS a1 : Int) (by omega) (by have := RS.out; omega)
      rw [Int.toNat_natCast] at hmk1
      have q1 : ((hs.length : Int) < (dkN a0 : Int)) = True := eq_true (by have := H6.out; omega)
      have q2 : (hs.length < dkN a0) = True := eq_true H6.out
      refine start_ (n := 10) (S := fun w' => w'.cell? ⟨g, 0, none⟩ = some (.slice (some ⟨h, 0, none⟩) (dkN a0) (dkN a0))) (ds := []) #[false, false, false, false, false, false, false, false, false, false] (by kernel_rfl) rfl rfl ((blk_cell HT.out 0).trans rfl) (fun hHeld => ?_)
      refine with_tabW disk_New.tab5 disk_New.bits5 (fun HT_ HW_ => ?_)
      refine pure_ (i := 0) (N := some 20) (v := ?_) (a' := ?_) #[true, false, false, false, false, false, false, false, false, false] rfl rfl (any_of HT_.out (by kernel_rfl)) (fun _ _ _ h => h) (Or.inl ⟨by rfl, ?_⟩) ?_ ?_
      rotate_left
      · intro w'
        go_simp
        with_reducible rfl
      rotate_left
      · simp only [Act.put, List.setIfInBounds_toArray, List.set_cons_zero, List.set_cons_succ, i64_w, i32_w]
        rfl
      refine pure_ (i := 1) (N := some 21) (v := ?_) (a' := ?_) #[true, true, false, false, false, false, false, false, false, false] rfl rfl (any_of HT_.out (by kernel_rfl)) (fun _ _ _ h => h) (Or.inl ⟨by rfl, ?_⟩) ?_ ?_
      rotate_left
      · intro w'
        go_simp
        with_reducible rfl
      rotate_left
      · simp only [Act.put, List.setIfInBounds_toArray, List.set_cons_zero, List.set_cons_succ, i64_w, i32_w]
        rfl
      refine pure_ (i := 2) (N := some 22) (v := ?_) (a' := ?_) #[true, true, true, false, false, false, false, false, false, false] rfl rfl (any_of HT_.out (by kernel_rfl)) (fun _ _ _ h => h) (Or.inl ⟨by rfl, ?_⟩) ?_ ?_
      rotate_left
      · intro w'
        go_simp
        with_reducible rfl
      rotate_left
      · simp only [Act.put, List.setIfInBounds_toArray, List.set_cons_zero, List.set_cons_succ, i64_w, i32_w]
        rfl
      refine take_ (i := 3) (N := some 23) (v := ?_) (a' := ?_) #[true, true, true, true, false, false, false, false, false, false] rfl rfl (take_ofW HT_.out HW_.out (by kernel_rfl)) (fun _ _ _ h => h) (Or.inl ⟨by rfl, ?_⟩) hHeld ?_ ?_
      rotate_left
      · intro w' s0
        go_simp
        with_reducible rfl
      rotate_left
      · simp only [Act.put, List.setIfInBounds_toArray, List.set_cons_zero, List.set_cons_succ, i64_w, i32_w]
        rfl
      refine pure_ (i := 4) (N := some 24) (v := ?_) (a' := ?_) #[true, true, true, true, true, false, false, false, false, false] rfl rfl (any_of HT_.out (by kernel_rfl)) (fun _ _ _ h => h) (Or.inl ⟨by rfl, ?_⟩) ?_ ?_
      rotate_left
      · intro w'
        go_simp
        with_reducible rfl
      rotate_left
      · simp only [Act.put, List.setIfInBounds_toArray, List.set_cons_zero, List.set_cons_succ, i64_w, i32_w]
        rfl
      refine pure_ (i := 5) (N := some 25) (v := ?_) (a' := ?_) #[true, true, true, true, true, true, false, false, false, false] rfl rfl (any_of HT_.out (by kernel_rfl)) (fun _ _ _ h => h) (Or.inl ⟨by rfl, ?_⟩) ?_ ?_
      rotate_left
      · intro w'
        go_simp
        with_reducible rfl
      rotate_left
      · simp only [Act.put, List.setIfInBounds_toArray, List.set_cons_zero, List.set_cons_succ, i64_w, i32_w]
        rfl
      refine one_ (i := 6) (N := some 26) #[true, true, true, true, true, true, true, false, false, false] rfl rfl (one_of HT_.out (by kernel_rfl)) (by decide) (fun K hK => ?_)
      have n0_ := Aside0.mk (blk_drew HT.out)
      have n1_ := Aside0.mk (blk_drew HR.out)
      have n2_ : Aside0 (hs.Nodup ∧ ∀ b ∈ hs, w.heap.size ≤ b ∧ wr.drew.heap[b]? = some (.cells (dkB (List.replicate (dkS a1) 0)) 5 (0, 0))) := ⟨HE.out⟩
      have n3_ := Aside0.mk (below_drew1 HB.out)
      clear HT HR HE HB
      have HT := n0_
      have HR := n1_
      have HE := n2_
      have HB := n3_
      clear n0_ n1_ n2_ n3_
      generalize wr.drew = w3 at HT HR HE HB hHeld ⊢
      refine goes_ Tryd.func28 (by kernel_rfl) rfl #[.int .i64 a1, .int .i64 64, .int .i64 65536] (by rfl) rfl rfl (by first | rfl | (go_simp; done)) ?_
      refine (disk_within.calls a1 64 65536 (dkS a1 : Int) _ (by unfold disk_within.f; rw [ES.out])).mono ?_
      rintro e w4 ⟨rfl, hb⟩
      refine ⟨_, rfl, ?_⟩
      have n0_ := Aside0.mk (blk_below HT.out hb)
      have n1_ := Aside0.mk (blk_below HR.out hb)
      have n2_ : Aside0 (hs.Nodup ∧ ∀ b ∈ hs, w.heap.size ≤ b ∧ w4.heap[b]? = some (.cells (dkB (List.replicate (dkS a1) 0)) 5 (0, 0))) := ⟨HE.out.1, fun b hm => ⟨(HE.out.2 b hm).1, blk_below (HE.out.2 b hm).2 hb⟩⟩
      have n3_ := Aside0.mk (below_step HB.out hb)
      clear HT HR HE HB hb
      have HT := n0_
      have HR := n1_
      have HE := n2_
      have HB := n3_
      clear n0_ n1_ n2_ n3_
      refine hK.out _ _ ((blk_cell HT.out 0).trans rfl) (fun hHeld => ?_)
      clear hK K
      refine norm_ (a' := ?_) ?_ ?_
      rotate_left
      · show Act.put _ (some 26) _ = _
        simp only [Act.put, List.setIfInBounds_toArray, List.set_cons_zero, List.set_cons_succ, i64_w, i32_w]
        rfl
      refine one_ (i := 7) (N := some 27) #[true, true, true, true, true, true, true, true, false, false] rfl rfl (one_of HT_.out (by kernel_rfl)) (by decide) (fun K hK => ?_)
      refine value_ (v := .slice (some ⟨w4.heap.size, 0, none⟩) (dkS a1) (dkS a1)) (w1 := w4.alloc (.cells (dkB (List.replicate (dkS a1) 0)) 5)) (by rfl) rfl ?_ ?_
      · have hm_ := hmk1 w4
        go_simp
      obtain ⟨b, hbq⟩ : ∃ b, b = w4.heap.size := ⟨_, rfl⟩
      rw [← hbq]
      have n0_ := Aside0.mk (blk_alloc HT.out (.cells (dkB (List.replicate (dkS a1) 0)) 5))
      have n1_ := Aside0.mk (blk_alloc HR.out (.cells (dkB (List.replicate (dkS a1) 0)) 5))
      have n2_ : Aside0 ((hs ++ [b]).Nodup ∧ ∀ x ∈ hs ++ [b], w.heap.size ≤ x ∧ (w4.alloc (.cells (dkB (List.replicate (dkS a1) 0)) 5)).heap[x]? = some (.cells (dkB (List.replicate (dkS a1) 0)) 5 (0, 0))) := ⟨by
        refine ⟨?_, fun x hm => ?_⟩
        · rw [List.nodup_append]
          refine ⟨HE.out.1, by simp, fun x hx y hy => ?_⟩
          have h1 := blk_lt (HE.out.2 x hx).2
          have h2 : y = b := by simpa using hy
          omega
        · rcases List.mem_append.1 hm with hx | hx
          · exact ⟨(HE.out.2 x hx).1, blk_alloc (HE.out.2 x hx).2 _⟩
          · have h2 : x = b := by simpa using hx
            subst h2
            subst hbq
            exact ⟨below_size HB.out, blk_new w4 _⟩⟩
      have n3_ := Aside0.mk (below_alloc HB.out (.cells (dkB (List.replicate (dkS a1) 0)) 5))
      clear HT HR HE HB
      have HT := n0_
      have HR := n1_
      have HE := n2_
      have HB := n3_
      clear n0_ n1_ n2_ n3_ hbq hmk1
      generalize w4.alloc (.cells (dkB (List.replicate (dkS a1) 0)) 5) = w5 at HT HR HE HB ⊢
      refine hK.out _ _ ((blk_cell HT.out 0).trans rfl) (fun hHeld => ?_)
      clear hK K
      refine norm_ (a' := ?_) ?_ ?_
      rotate_left
      · show Act.put _ (some 27) _ = _
        simp only [Act.put, List.setIfInBounds_toArray, List.set_cons_zero, List.set_cons_succ, i64_w, i32_w]
        rfl
      refine pure_ (i := 8) (N := some 28) (v := ?_) (a' := ?_) #[true, true, true, true, true, true, true, true, true, false] rfl rfl (any_of HT_.out (by kernel_rfl)) (fun _ _ _ h => h) (Or.inl ⟨by rfl, ?_⟩) ?_ ?_
      rotate_left
      · intro w'
        go_simp
        with_reducible rfl
      rotate_left
      · simp only [Act.put, List.setIfInBounds_toArray, List.set_cons_zero, List.set_cons_succ, i64_w, i32_w]
        rfl
      refine one_ (i := 9) (N := none) #[true, true, true, true, true, true, true, true, true, true] rfl rfl (one_of HT_.out (by kernel_rfl)) (by decide) (fun K hK => ?_)
      have hs0 : w5.cell? ⟨h, hs.length, none⟩ = some (.slice none 0 0) := (blk_cell HR.out hs.length).trans (dkF_old _ _ hs H6.out)
      have hfs0 := blk_frozen HR.out hs.length
      refine skip_ (w1 := w5.setCell ⟨h, hs.length, none⟩ (.slice (some ⟨b, 0, none⟩) (dkS a1) (dkS a1))) (by rfl) rfl ?_ ?_
      · go_simp
      have n0_ := Aside0.mk (blk_far HT.out (p := ⟨h, hs.length, none⟩) (fun e => GH.out.2.2 e.symm) (.slice (some ⟨b, 0, none⟩) (dkS a1) (dkS a1)))
      have n1_ := Aside0.mk (blk_put (cs' := dkF (dkS a1) (dkN a0) (hs ++ [b])) HR.out hs.length (.slice (some ⟨b, 0, none⟩) (dkS a1) (dkS a1)) (dkF_step _ _ hs b H6.out))
      have n2_ : Aside0 ((hs ++ [b]).Nodup ∧ ∀ x ∈ hs ++ [b], w.heap.size ≤ x ∧ (w5.setCell ⟨h, hs.length, none⟩ (.slice (some ⟨b, 0, none⟩) (dkS a1) (dkS a1))).heap[x]? = some (.cells (dkB (List.replicate (dkS a1) 0)) 5 (0, 0))) := ⟨HE.out.1, fun x hm => ⟨(HE.out.2 x hm).1, blk_far (HE.out.2 x hm).2 (p := ⟨h, hs.length, none⟩) (blk_ne (HE.out.2 x hm).2 HR.out (by decide)) _⟩⟩
      have n3_ := Aside0.mk (Below.setCell (p := ⟨h, hs.length, none⟩) HB.out GH.out.1 (.slice (some ⟨b, 0, none⟩) (dkS a1) (dkS a1)))
      clear HT HR HE HB hs0 hfs0
      have HT := n0_
      have HR := n1_
      have HE := n2_
      have HB := n3_
      clear n0_ n1_ n2_ n3_
      generalize w5.setCell ⟨h, hs.length, none⟩ (.slice (some ⟨b, 0, none⟩) (dkS a1) (dkS a1)) = w6 at HT HR HE HB ⊢
      refine hK.out _ _ ((blk_cell HT.out 0).trans rfl) (fun hHeld => ?_)
      clear hK K
      refine done_ (done_of HT_.out (by kernel_rfl)) ?_
      clear HT_ HW_ hHeld
      have w7 : wrap64 ((hs.length : Int) + 1) = ((hs.length + 1 : Nat) : Int) := by unfold wrap64; have := H6.out; have := RN.out; omega
      have w8 : (hs ++ [b]).length = hs.length + 1 := by simp
      (try simp only [Exit.inBlock, Exit.then])
      go_wp2
      go_roundg (gk - 1)
      case measure => have := Hk.out; have := H6.out; omega
      case rel => exact ⟨hs ++ [b], by first | rfl | (simp [w7]; done) | (simp only [w7, w8]; rfl), ⟨by have := Hk.out; have := H6.out; rw [w8]; omega⟩, ⟨HT.out⟩, ⟨HR.out⟩, ⟨HE.out⟩, ⟨HB.out⟩⟩
    · have c6b : decide ((hs.length : Int) < (dkN a0 : Int)) = false := decide_eq_false (by omega)
      have c6c : decide (hs.length < dkN a0) = false := decide_eq_false c6
      have el : hs.length = dkN a0 := by have := Hk.out; omega
      clear c6
      go_wp2
      (try simp only [Exit.inBlock, Exit.then])
      go_ret
      rw [dkF_end _ _ hs el] at HR
      refine ⟨g, h, hs, rfl, ⟨by rw [el]; exact HT.out, HR.out, by simp [el], HE.out.1, fun i x l hx hl => ?_, GH.out.2.1, GH.out.1, fun x hx => (HE.out.2 x hx).1⟩, el, HB.out⟩
      have hl2 : l = List.replicate (dkS a1) 0 := List.eq_of_mem_replicate (List.mem_of_getElem? hl)
      subst hl2
      exact ⟨by simp, (HE.out.2 x (List.mem_of_getElem? hx)).2⟩
end Go.Proofs.YtgeggcifhojpmaaDoor.PB
namespace Go.Proofs.YtgeggcifhojpmaaDoor.PB
open Go.RowKit Go.Proofs.YtgeggcifhojpmaaDoorW.PrintWords Go.Proofs.YtgeggcifhojpmaaDoorW.PrintLast Go.Proofs.YtgeggcifhojpmaaDoorW.PrintMore
attribute [local go_sem] max2_int min2_int max_two min_two max_three min_three max_four min_four   -- for this text's walks alone
set_option linter.unusedVariables false
set_option linter.unusedSimpArgs false

/-- What is kept: all that was there and is none of S. -/
structure DF (S : Nat → Prop) (w w' : World) : Prop where
  os : w'.os = w.os
  tape : w'.tape = w.tape
  output : w'.output = w.output
  size : w.heap.size ≤ w'.heap.size
  block : ∀ k, k < w.heap.size → ¬ S k → w'.heap[k]? = w.heap[k]?
theorem DF.refl (S : Nat → Prop) (w : World) : DF S w w := ⟨rfl, rfl, rfl, Nat.le_refl _, fun _ _ _ => rfl⟩
theorem DF.trans {S : Nat → Prop} {w w1 w2 : World} (h : DF S w w1) (k : DF S w1 w2) : DF S w w2 := ⟨k.os.trans h.os, k.tape.trans h.tape, k.output.trans h.output, Nat.le_trans h.size k.size, fun i hi hs => (k.block i (Nat.lt_of_lt_of_le hi h.size) hs).trans (h.block i hi hs)⟩
theorem DF.mono {S S' : Nat → Prop} {w w1 : World} (h : DF S w w1) (k : ∀ i, S i → S' i) : DF S' w w1 := ⟨h.os, h.tape, h.output, h.size, fun i hi hs => h.block i hi (fun hq => hs (k i hq))⟩
theorem DF.of_below {S : Nat → Prop} {w w1 : World} (h : Below w.heap.size w w1) : DF S w w1 := ⟨h.os, h.tape, h.output, h.size, fun i hi _ => h.block i hi⟩
theorem DF.set {S : Nat → Prop} {w w1 : World} (h : DF S w w1) {p : Addr} (hp : S p.block) (u : Value) : DF S w (w1.setCell p u) := ⟨h.os, h.tape, h.output, by simpa [World.setCell] using h.size, fun i hi hs => (Below.heap_setCell w1 p u i (fun e => hs (e ▸ hp))).trans (h.block i hi hs)⟩
theorem DF.below {S : Nat → Prop} {base : Nat} {w0 w w1 : World} (h : DF S w w1) (hb : Below base w0 w) (hbase : base ≤ w.heap.size) (hs : ∀ i, S i → base ≤ i) : Below base w0 w1 := hb.trans ⟨h.os, h.tape, h.output, h.size, fun i hi => h.block i (Nat.lt_of_lt_of_le hi hbase) (fun hq => by have := hs i hq; omega)⟩
section
variable {w : World} {base g h s : Nat} {hs : List Nat} {bs : List (List Int)} {cut pre : Int} {dead : Bool}
theorem DK.lt (hd : DK w base g h s hs bs cut pre dead) : g < w.heap.size ∧ h < w.heap.size ∧ ∀ b ∈ hs, b < w.heap.size := by
  refine ⟨blk_lt hd.top, blk_lt hd.row, fun b hb => ?_⟩
  obtain ⟨i, hi, he⟩ := List.mem_iff_getElem.1 hb
  exact blk_lt (hd.each i b (bs[i]'(by rw [hd.len]; exact hi)) (by rw [List.getElem?_eq_getElem hi, he]) (List.getElem?_eq_getElem _)).2
theorem DK.kept {S : Nat → Prop} {w' : World} (hd : DK w base g h s hs bs cut pre dead) (hf : DF S w w') (hg : ¬ S g) (hh : ¬ S h) (hb : ∀ b ∈ hs, ¬ S b) : DK w' base g h s hs bs cut pre dead := by
  have hl := hd.lt
  refine ⟨(hf.block g hl.1 hg).trans hd.top, (hf.block h hl.2.1 hh).trans hd.row, hd.len, hd.nodup, fun i b l hi hq => ?_, hd.own⟩
  have hm := List.mem_of_getElem? hi
  have h2 := hd.each i b l hi hq
  exact ⟨h2.1, (hf.block b (hl.2.2 b hm) (hb b hm)).trans h2.2⟩
theorem DK.ne (hd : DK w base g h s hs bs cut pre dead) : g ≠ h ∧ g ∉ hs ∧ h ∉ hs := by
  have key : ∀ b ∈ hs, b ≠ g ∧ b ≠ h := fun b hb => by
    obtain ⟨i, hi, he⟩ := List.mem_iff_getElem.1 hb
    have h2 := (hd.each i b (bs[i]'(by rw [hd.len]; exact hi)) (by rw [List.getElem?_eq_getElem hi, he]) (List.getElem?_eq_getElem _)).2
    exact ⟨blk_ne h2 hd.top (by decide), blk_ne h2 hd.row (by decide)⟩
  exact ⟨blk_ne hd.top hd.row (by decide), fun hq => (key g hq).1 rfl, fun hq => (key h hq).2 rfl⟩
theorem DK.drewN (hd : DK w base g h s hs bs cut pre dead) (n : Nat) : DK (w.drewN n) base g h s hs bs cut pre dead := hd.kept (S := fun _ => False) ⟨rfl, rfl, rfl, Nat.le_refl _, fun _ _ _ => rfl⟩ id id (fun _ _ => id)
theorem DK.set1 (hd : DK w base g h s hs bs cut pre dead) (x : Int) : DK (w.setCell ⟨g, 1, none⟩ (.int .i64 x)) base g h s hs bs x pre dead :=
  ⟨blk_put hd.top 1 _ rfl, blk_far hd.row (p := ⟨g, 1, none⟩) (fun e => hd.ne.1 e.symm) _, hd.len, hd.nodup, fun i b l hi hq => ⟨(hd.each i b l hi hq).1, blk_far (hd.each i b l hi hq).2 (p := ⟨g, 1, none⟩) (fun e => hd.ne.2.1 (by have h_ := List.mem_of_getElem? hi; rw [show b = g from e] at h_; exact h_)) _⟩, hd.own⟩
theorem DK.set2 (hd : DK w base g h s hs bs cut pre dead) (x : Int) : DK (w.setCell ⟨g, 2, none⟩ (.int .i64 x)) base g h s hs bs cut x dead :=
  ⟨blk_put hd.top 2 _ rfl, blk_far hd.row (p := ⟨g, 2, none⟩) (fun e => hd.ne.1 e.symm) _, hd.len, hd.nodup, fun i b l hi hq => ⟨(hd.each i b l hi hq).1, blk_far (hd.each i b l hi hq).2 (p := ⟨g, 2, none⟩) (fun e => hd.ne.2.1 (by have h_ := List.mem_of_getElem? hi; rw [show b = g from e] at h_; exact h_)) _⟩, hd.own⟩
theorem DK.set3 (hd : DK w base g h s hs bs cut pre dead) (x : Bool) : DK (w.setCell ⟨g, 3, none⟩ (.bool x)) base g h s hs bs cut pre x :=
  ⟨blk_put hd.top 3 _ rfl, blk_far hd.row (p := ⟨g, 3, none⟩) (fun e => hd.ne.1 e.symm) _, hd.len, hd.nodup, fun i b l hi hq => ⟨(hd.each i b l hi hq).1, blk_far (hd.each i b l hi hq).2 (p := ⟨g, 3, none⟩) (fun e => hd.ne.2.1 (by have h_ := List.mem_of_getElem? hi; rw [show b = g from e] at h_; exact h_)) _⟩, hd.own⟩
end
/-- Whether a block can be asked for. -/
def dkAt (n : Nat) (dead : Bool) (i : Int) : Int := if dead = true then 42 else if i < 0 then 40 else if (n : Int) ≤ i then 40 else 0
set_option maxHeartbeats 4000000 in
set_option maxRecDepth 100000 in
theorem disk_Blocks.calls {w : World} {base g q s : Nat} {hs : List Nat} {bs : List (List Int)} {cut pre : Int} {dead : Bool} (hd : DK w base g q s hs bs cut pre dead) : Calls Tryd.prog 17 #[.pointer (some ⟨g, 0, none⟩)] w fun e w' => e = .returned (.int .i64 (hs.length : Int)) ∧ Drawn0 w w' := by
  have hu55 := Tryd.underlying55
  have HD := Aside0.mk hd
  clear hd
  have c0 : w.cell? ⟨g, 0, none⟩ = some (.slice (some ⟨q, 0, none⟩) hs.length hs.length) := (blk_cell HD.out.top 0).trans rfl
  have c1 : w.cell? ⟨g, 1, none⟩ = some (.int .i64 cut) := (blk_cell HD.out.top 1).trans rfl
  have c2 : w.cell? ⟨g, 2, none⟩ = some (.int .i64 pre) := (blk_cell HD.out.top 2).trans rfl
  have c3 : w.cell? ⟨g, 3, none⟩ = some (.bool dead) := (blk_cell HD.out.top 3).trans rfl
  have z0 := blk_frozen HD.out.top 0
  have z1 := blk_frozen HD.out.top 1
  have z2 := blk_frozen HD.out.top 2
  have z3 := blk_frozen HD.out.top 3
  go_enter Tryd.func17, Tryd.ntmps17
  go_wp2
  go_ret
  exact ⟨rfl, by repeat (first | exact Drawn0.refl _ | apply Drawn0.step)⟩
set_option maxHeartbeats 4000000 in
set_option maxRecDepth 100000 in
theorem disk_Dead.calls {w : World} {base g q s : Nat} {hs : List Nat} {bs : List (List Int)} {cut pre : Int} {dead : Bool} (hd : DK w base g q s hs bs cut pre dead) : Calls Tryd.prog 26 #[.pointer (some ⟨g, 0, none⟩)] w fun e w' => e = .returned (.bool dead) ∧ Drawn0 w w' := by
  have hu55 := Tryd.underlying55
  have HD := Aside0.mk hd
  clear hd
  have c0 : w.cell? ⟨g, 0, none⟩ = some (.slice (some ⟨q, 0, none⟩) hs.length hs.length) := (blk_cell HD.out.top 0).trans rfl
  have c1 : w.cell? ⟨g, 1, none⟩ = some (.int .i64 cut) := (blk_cell HD.out.top 1).trans rfl
  have c2 : w.cell? ⟨g, 2, none⟩ = some (.int .i64 pre) := (blk_cell HD.out.top 2).trans rfl
  have c3 : w.cell? ⟨g, 3, none⟩ = some (.bool dead) := (blk_cell HD.out.top 3).trans rfl
  have z0 := blk_frozen HD.out.top 0
  have z1 := blk_frozen HD.out.top 1
  have z2 := blk_frozen HD.out.top 2
  have z3 := blk_frozen HD.out.top 3
  go_enter Tryd.func26, Tryd.ntmps26
  go_wp2
  go_ret
  exact ⟨rfl, by repeat (first | exact Drawn0.refl _ | apply Drawn0.step)⟩
set_option maxHeartbeats 4000000 in
set_option maxRecDepth 100000 in
theorem disk_Size.calls {w : World} {base g q s : Nat} {hs : List Nat} {bs : List (List Int)} {cut pre : Int} {dead : Bool} (hd : DK w base g q s hs bs cut pre dead) (hn : 0 < hs.length) : Calls Tryd.prog 18 #[.pointer (some ⟨g, 0, none⟩)] w fun e w' => e = .returned (.int .i64 (s : Int)) ∧ Drawn0 w w' := by
  have hu55 := Tryd.underlying55
  have HD := Aside0.mk hd
  clear hd
  have c0 : w.cell? ⟨g, 0, none⟩ = some (.slice (some ⟨q, 0, none⟩) hs.length hs.length) := (blk_cell HD.out.top 0).trans rfl
  have c1 : w.cell? ⟨g, 1, none⟩ = some (.int .i64 cut) := (blk_cell HD.out.top 1).trans rfl
  have c2 : w.cell? ⟨g, 2, none⟩ = some (.int .i64 pre) := (blk_cell HD.out.top 2).trans rfl
  have c3 : w.cell? ⟨g, 3, none⟩ = some (.bool dead) := (blk_cell HD.out.top 3).trans rfl
  have z0 := blk_frozen HD.out.top 0
  have z1 := blk_frozen HD.out.top 1
  have z2 := blk_frozen HD.out.top 2
  have z3 := blk_frozen HD.out.top 3
  obtain ⟨b, hb⟩ : ∃ b, hs[0]? = some b := ⟨_, List.getElem?_eq_getElem hn⟩
  have r0 : w.cell? ⟨q, 0, none⟩ = some (.slice (some ⟨b, 0, none⟩) s s) := (blk_cell HD.out.row 0).trans (dkR_get hb)
  have q0 : ((0 : Int) < (hs.length : Int)) = True := eq_true (by omega)
  have q1 : (0 < hs.length) = True := eq_true hn
  clear hb hn
  go_enter Tryd.func18, Tryd.ntmps18
  go_wp2
  go_ret
  exact ⟨rfl, by repeat (first | exact Drawn0.refl _ | apply Drawn0.step)⟩
set_option maxHeartbeats 4000000 in
set_option maxRecDepth 100000 in
theorem disk_Power.calls {w : World} {base g q s : Nat} {hs : List Nat} {bs : List (List Int)} {cut pre : Int} {dead : Bool} (hd : DK w base g q s hs bs cut pre dead) : Calls Tryd.prog 27 #[.pointer (some ⟨g, 0, none⟩)] w fun e w' => e = .returned (.tuple #[]) ∧ DK w' base g q s hs bs (-1) pre false ∧ DF (fun k => k = g) w w' := by
  have hu55 := Tryd.underlying55
  have HD := Aside0.mk hd
  clear hd
  have c0 : w.cell? ⟨g, 0, none⟩ = some (.slice (some ⟨q, 0, none⟩) hs.length hs.length) := (blk_cell HD.out.top 0).trans rfl
  have c1 : w.cell? ⟨g, 1, none⟩ = some (.int .i64 cut) := (blk_cell HD.out.top 1).trans rfl
  have c2 : w.cell? ⟨g, 2, none⟩ = some (.int .i64 pre) := (blk_cell HD.out.top 2).trans rfl
  have c3 : w.cell? ⟨g, 3, none⟩ = some (.bool dead) := (blk_cell HD.out.top 3).trans rfl
  have z0 := blk_frozen HD.out.top 0
  have z1 := blk_frozen HD.out.top 1
  have z2 := blk_frozen HD.out.top 2
  have z3 := blk_frozen HD.out.top 3
  go_enter Tryd.func27, Tryd.ntmps27
  go_wp2
  first | go_end0 | ((try simp only [Exit.inBlock, Exit.then]); refine bodyPost_ret (results_none rfl _ _ _) rfl ?_)
  exact ⟨rfl, (HD.out.set3 false).set1 (-1), ((DF.refl (fun k => k = g) w).set (p := ⟨g, 3, none⟩) rfl _).set (p := ⟨g, 1, none⟩) rfl _⟩
set_option maxHeartbeats 4000000 in
set_option maxRecDepth 100000 in
theorem disk_at.calls {w : World} {base g q s : Nat} {hs : List Nat} {bs : List (List Int)} {cut pre : Int} {dead : Bool} (hd : DK w base g q s hs bs cut pre dead) (i : Int) : Calls Tryd.prog 37 #[.pointer (some ⟨g, 0, none⟩), .int .i64 i] w fun e w' => e = .returned (.int .i64 (dkAt hs.length dead i)) ∧ Drawn0 w w' := by
  have hu55 := Tryd.underlying55
  have HD := Aside0.mk hd
  clear hd
  have c0 : w.cell? ⟨g, 0, none⟩ = some (.slice (some ⟨q, 0, none⟩) hs.length hs.length) := (blk_cell HD.out.top 0).trans rfl
  have c1 : w.cell? ⟨g, 1, none⟩ = some (.int .i64 cut) := (blk_cell HD.out.top 1).trans rfl
  have c2 : w.cell? ⟨g, 2, none⟩ = some (.int .i64 pre) := (blk_cell HD.out.top 2).trans rfl
  have c3 : w.cell? ⟨g, 3, none⟩ = some (.bool dead) := (blk_cell HD.out.top 3).trans rfl
  have z0 := blk_frozen HD.out.top 0
  have z1 := blk_frozen HD.out.top 1
  have z2 := blk_frozen HD.out.top 2
  have z3 := blk_frozen HD.out.top 3
  cases dead with
  | true =>
    go_enter Tryd.func37, Tryd.ntmps37
    go_wp2
    (try simp only [Exit.inBlock, Exit.then])
    go_ret
    exact ⟨rfl, by repeat (first | exact Drawn0.refl _ | apply Drawn0.step)⟩
  | false =>
    by_cases k1 : i < 0
    · have k1b : decide (i < 0) = true := decide_eq_true k1
      have e : dkAt hs.length false i = 40 := by unfold dkAt; rw [if_neg (by decide), if_pos k1]
      rw [e]
      clear k1
      go_enter Tryd.func37, Tryd.ntmps37
      go_wp2
      (try simp only [Exit.inBlock, Exit.then])
      go_ret
      exact ⟨rfl, by repeat (first | exact Drawn0.refl _ | apply Drawn0.step)⟩
    · have k1b : decide (i < 0) = false := decide_eq_false k1
      by_cases k2 : (hs.length : Int) ≤ i
      · have k2b : decide ((hs.length : Int) ≤ i) = true := decide_eq_true k2
        have e : dkAt hs.length false i = 40 := by unfold dkAt; rw [if_neg (by decide), if_neg k1, if_pos k2]
        rw [e]
        clear k1 k2
        go_enter Tryd.func37, Tryd.ntmps37
        go_wp2
        (try simp only [Exit.inBlock, Exit.then])
        go_ret
        exact ⟨rfl, by repeat (first | exact Drawn0.refl _ | apply Drawn0.step)⟩
      · have k2b : decide ((hs.length : Int) ≤ i) = false := decide_eq_false k2
        have e : dkAt hs.length false i = 0 := by unfold dkAt; rw [if_neg (by decide), if_neg k1, if_neg k2]
        rw [e]
        clear k1 k2
        go_enter Tryd.func37, Tryd.ntmps37
        go_wp2
        (try simp only [Exit.inBlock, Exit.then])
        go_ret
        exact ⟨rfl, by repeat (first | exact Drawn0.refl _ | apply Drawn0.step)⟩
set_option maxHeartbeats 4000000 in
set_option maxRecDepth 100000 in
theorem disk_Cut.calls {w : World} {base g q s : Nat} {hs : List Nat} {bs : List (List Int)} {cut pre : Int} {dead : Bool} (hd : DK w base g q s hs bs cut pre dead) (hn : 0 < hs.length) (n p : Int) : Calls Tryd.prog 25 #[.pointer (some ⟨g, 0, none⟩), .int .i64 n, .int .i64 p] w fun e w' => e = .returned (.tuple #[]) ∧ DK w' base g q s hs bs (mx n 0) (mn (mx p 0) (s : Int)) dead ∧ DF (fun k => k = g) w w' := by
  have hu55 := Tryd.underlying55
  have HD := Aside0.mk hd
  clear hd
  have c0 : w.cell? ⟨g, 0, none⟩ = some (.slice (some ⟨q, 0, none⟩) hs.length hs.length) := (blk_cell HD.out.top 0).trans rfl
  have c1 : w.cell? ⟨g, 1, none⟩ = some (.int .i64 cut) := (blk_cell HD.out.top 1).trans rfl
  have c2 : w.cell? ⟨g, 2, none⟩ = some (.int .i64 pre) := (blk_cell HD.out.top 2).trans rfl
  have c3 : w.cell? ⟨g, 3, none⟩ = some (.bool dead) := (blk_cell HD.out.top 3).trans rfl
  have z0 := blk_frozen HD.out.top 0
  have z1 := blk_frozen HD.out.top 1
  have z2 := blk_frozen HD.out.top 2
  have z3 := blk_frozen HD.out.top 3
  go_enter Tryd.func25, Tryd.ntmps25
  go_wp2_with fail
  · refine (disk_Size.calls HD.out hn).mono ?_
    rintro e w1 ⟨rfl, ⟨nd, rfl⟩⟩
    (try dsimp only)
    go_wp2_with fail
    refine (disk_within.calls p 0 (s : Int) (mn (mx p 0) (s : Int)) _ (by unfold disk_within.f; rfl)).mono ?_
    rintro e w2 ⟨rfl, hb⟩
    (try dsimp only)
    have F1 : DF (fun k => k = g) w w2 := (⟨rfl, rfl, rfl, Nat.le_refl _, fun _ _ _ => rfl⟩ : DF (fun k => k = g) w (w.drewN nd)).trans (DF.of_below hb)
    have n0_ : Aside0 (DK w2 base g q s hs bs cut pre dead) := ⟨(HD.out.drewN nd).kept (S := fun _ => False) (DF.of_below hb) id id (fun _ _ => id)⟩
    have F1 := Aside0.mk F1
    clear hb c0 c1 c2 c3 z0 z1 z2 z3 HD
    have HD := n0_
    clear n0_
    have c0 : w2.cell? ⟨g, 0, none⟩ = some (.slice (some ⟨q, 0, none⟩) hs.length hs.length) := (blk_cell HD.out.top 0).trans rfl
    have c1 : w2.cell? ⟨g, 1, none⟩ = some (.int .i64 cut) := (blk_cell HD.out.top 1).trans rfl
    have c2 : w2.cell? ⟨g, 2, none⟩ = some (.int .i64 pre) := (blk_cell HD.out.top 2).trans rfl
    have c3 : w2.cell? ⟨g, 3, none⟩ = some (.bool dead) := (blk_cell HD.out.top 3).trans rfl
    have z0 := blk_frozen HD.out.top 0
    have z1 := blk_frozen HD.out.top 1
    have z2 := blk_frozen HD.out.top 2
    have z3 := blk_frozen HD.out.top 3
    go_wp2
    first | go_end0 | ((try simp only [Exit.inBlock, Exit.then]); refine bodyPost_ret (results_none rfl _ _ _) rfl ?_)
    have e : mx n 0 = 0 := by unfold mx; split <;> omega
    rw [e]
    exact ⟨rfl, (HD.out.set1 (0)).set2 _, (F1.out.set (p := ⟨g, 1, none⟩) rfl _).set (p := ⟨g, 2, none⟩) rfl _⟩
  · refine (disk_Size.calls HD.out hn).mono ?_
    rintro e w1 ⟨rfl, ⟨nd, rfl⟩⟩
    (try dsimp only)
    go_wp2_with fail
    refine (disk_within.calls p 0 (s : Int) (mn (mx p 0) (s : Int)) _ (by unfold disk_within.f; rfl)).mono ?_
    rintro e w2 ⟨rfl, hb⟩
    (try dsimp only)
    have F1 : DF (fun k => k = g) w w2 := (⟨rfl, rfl, rfl, Nat.le_refl _, fun _ _ _ => rfl⟩ : DF (fun k => k = g) w (w.drewN nd)).trans (DF.of_below hb)
    have n0_ : Aside0 (DK w2 base g q s hs bs cut pre dead) := ⟨(HD.out.drewN nd).kept (S := fun _ => False) (DF.of_below hb) id id (fun _ _ => id)⟩
    have F1 := Aside0.mk F1
    clear hb c0 c1 c2 c3 z0 z1 z2 z3 HD
    have HD := n0_
    clear n0_
    have c0 : w2.cell? ⟨g, 0, none⟩ = some (.slice (some ⟨q, 0, none⟩) hs.length hs.length) := (blk_cell HD.out.top 0).trans rfl
    have c1 : w2.cell? ⟨g, 1, none⟩ = some (.int .i64 cut) := (blk_cell HD.out.top 1).trans rfl
    have c2 : w2.cell? ⟨g, 2, none⟩ = some (.int .i64 pre) := (blk_cell HD.out.top 2).trans rfl
    have c3 : w2.cell? ⟨g, 3, none⟩ = some (.bool dead) := (blk_cell HD.out.top 3).trans rfl
    have z0 := blk_frozen HD.out.top 0
    have z1 := blk_frozen HD.out.top 1
    have z2 := blk_frozen HD.out.top 2
    have z3 := blk_frozen HD.out.top 3
    go_wp2
    first | go_end0 | ((try simp only [Exit.inBlock, Exit.then]); refine bodyPost_ret (results_none rfl _ _ _) rfl ?_)
    have e : mx n 0 = n := by unfold mx; split <;> omega
    rw [e]
    exact ⟨rfl, (HD.out.set1 (n)).set2 _, (F1.out.set (p := ⟨g, 1, none⟩) rfl _).set (p := ⟨g, 2, none⟩) rfl _⟩
end Go.Proofs.YtgeggcifhojpmaaDoor.PB
namespace Go.Proofs.YtgeggcifhojpmaaDoor.PB
open Go.RowKit Go.Proofs.YtgeggcifhojpmaaDoorW.PrintWords Go.Proofs.YtgeggcifhojpmaaDoorW.PrintLast Go.Proofs.YtgeggcifhojpmaaDoorW.PrintMore
attribute [local go_sem] max2_int min2_int max_two min_two max_three min_three max_four min_four   -- for this text's walks alone
set_option linter.unusedVariables false
set_option linter.unusedSimpArgs false

def disk_Write.T7 : Bool × List (List Nat × List Nat) := (true, [([], []), ([0], [0]), ([1], [1]), ([2], [2]), ([], []), ([3, 4], [3, 4]), ([5], [5]), ([], []), ([], []), ([8], [8]), ([9], [9]), ([10], [10]), ([7, 11], [7, 11]), ([6, 12], [6, 12])])
def disk_Write.B7 : List Nat := [0, 1, 3, 7, 0, 31, 63, 0, 0, 256, 768, 1792, 3968, 8191]
theorem disk_Write.tab7 : rtab .any (opsOf Tryd.f35 7) = disk_Write.T7 := by kernel_rfl
theorem disk_Write.bits7 : waitsOk disk_Write.T7.2 disk_Write.B7 = true := by kernel_rfl
/-- A copy of bytes, told by the row behind it. -/
theorem dk_copy {W : World} {g : Nat} {ad : Addr} {cur bl : List Int} {dCap sCap : Nat} (hg : W.heap[g]? = some (.cells (dkB cur) 5 (0, 0))) (hl : bl.length ≤ cur.length) (hs : ∀ (j : Nat) (x : Int), bl[j]? = some x → W.cell? (ad.add j) = some (.int .u8 x)) :
    (Builtin.copy_ #[22, 22] 3 #[.slice (some ⟨g, 0, none⟩) cur.length dCap, .slice (some ad) bl.length sCap]).run Tryd.prog W = .ok (.int .i64 (bl.length : Int)) (W.setRow g (dkB (bl ++ cur.drop bl.length))) := by
  obtain ⟨i, hi, hz, hsz, hb⟩ := info_parts info5
  have h1 := run_copy_row (P := Tryd.prog) W 22 22 3 5 g 0 cur.length dCap ad bl.length sCap (dkB cur) 5 (bl.map (Value.int .u8)) Tryd.underlying22 (by rw [hi]; simp [hsz]) hg (by simp [Nat.min_def]; omega) (fun j v hv => by
    rw [List.getElem?_map] at hv
    cases h2 : bl[j]? with
    | none => rw [h2] at hv; cases hv
    | some x =>
      rw [h2] at hv
      obtain rfl : Value.int .u8 x = v := Option.some.inj hv
      exact hs j x h2) (by simp [dkB]; omega) (fun v hv => by
    obtain ⟨x, _, rfl⟩ := List.mem_map.1 hv
    rfl)
  rw [h1]
  simp [dkB, goInt, List.map_drop]
theorem DK.setB {w : World} {base g h s : Nat} {hs : List Nat} {bs : List (List Int)} {cut pre : Int} {dead : Bool} (hd : DK w base g h s hs bs cut pre dead) {k b : Nat} (hk : hs[k]? = some b) {l' : List Int} (hl : l'.length = s) : DK (w.setRow b (dkB l')) base g h s hs (bs.set k l') cut pre dead := by
  have hne := hd.ne
  have hm := List.mem_of_getElem? hk
  have hkn : k < hs.length := by
    rcases Nat.lt_or_ge k hs.length with h1 | h1
    · exact h1
    · rw [List.getElem?_eq_none h1] at hk; cases hk
  refine ⟨(setRow_other w b g _ (fun e => hne.2.1 (by rw [e]; exact hm))).trans hd.top, (setRow_other w b h _ (fun e => hne.2.2 (by rw [e]; exact hm))).trans hd.row, by rw [List.length_set]; exact hd.len, hd.nodup, fun i b' l hi hq => ?_, hd.own⟩
  by_cases e : i = k
  · subst e
    obtain rfl : b = b' := Option.some.inj (hk.symm.trans hi)
    have hlen : i < bs.length := by rw [hd.len]; exact hkn
    have h2 : l' = l := by
      rw [List.getElem?_set_self hlen] at hq
      exact Option.some.inj hq
    subst h2
    have h3 := (hd.each i b (bs[i]'hlen) hi (List.getElem?_eq_getElem _)).2
    exact ⟨hl, setRow_heap w b _ _ 5 (0, 0) h3⟩
  · rw [List.getElem?_set_ne (fun h => e h.symm)] at hq
    have h3 := hd.each i b' l hi hq
    refine ⟨h3.1, (setRow_other w b b' _ (fun h => e ?_)).trans h3.2⟩
    have hin : i < hs.length := by
      rcases Nat.lt_or_ge i hs.length with h1 | h1
      · exact h1
      · rw [List.getElem?_eq_none h1] at hi; cases hi
    have h4 : hs[i]'hin = hs[k]'hkn := by
      rw [List.getElem?_eq_getElem hin] at hi
      rw [List.getElem?_eq_getElem hkn] at hk
      rw [Option.some.inj hi, Option.some.inj hk, h]
    exact (List.getElem_inj hd.nodup).1 h4
theorem DF.setRow {S : Nat → Prop} {w w1 : World} (h : DF S w w1) {b : Nat} (hp : S b) (cs : Array Value) : DF S w (w1.setRow b cs) := ⟨h.os, h.tape, h.output, by simpa [World.setRow] using h.size, fun i hi hs => (setRow_other w1 b i cs (fun e => hs (e ▸ hp))).trans (h.block i hi hs)⟩
theorem DK.at {w : World} {base g h s : Nat} {hs : List Nat} {bs : List (List Int)} {cut pre : Int} {dead : Bool} (hd : DK w base g h s hs bs cut pre dead) {k : Nat} (hk : k < hs.length) : ∃ b l, hs[k]? = some b ∧ bs[k]? = some l ∧ l.length = s ∧ w.heap[b]? = some (.cells (dkB l) 5 (0, 0)) := by
  have h1 : hs[k]? = some hs[k] := List.getElem?_eq_getElem hk
  have h2 : bs[k]? = some (bs[k]'(by rw [hd.len]; exact hk)) := List.getElem?_eq_getElem _
  exact ⟨_, _, h1, h2, hd.each k _ _ h1 h2⟩
theorem dkAt_ok {n k : Nat} (h : k < n) : dkAt n false (k : Int) = 0 := by unfold dkAt; rw [if_neg (by decide), if_neg (by omega), if_neg (by omega)]
theorem dkB_get {l : List Int} {j : Nat} {x : Int} (h : l[j]? = some x) : (dkB l)[j]? = some (.int .u8 x) := by simp [dkB, h]
theorem add_block (ad : Addr) (j : Nat) : (ad.add j).block = ad.block := by unfold Addr.add; split <;> rfl
theorem cell_off {w : World} {p : Addr} (u : Value) (a : Addr) (h : a.block ≠ p.block) : (w.setCell p u).cell? a = w.cell? a := by
  have := Below.heap_setCell w p u a.block h
  simp only [World.cell?, this]
theorem add_at (c j : Nat) : (⟨c, 0, none⟩ : Addr).add j = ⟨c, j, none⟩ := by unfold Addr.add; split <;> simp_all
theorem add_at2 (c i j : Nat) : (⟨c, i, none⟩ : Addr).add j = ⟨c, i + j, none⟩ := by unfold Addr.add; split <;> simp_all
set_option maxHeartbeats 4000000 in
set_option maxRecDepth 100000 in
theorem disk_Read.refused {w : World} {base g q s : Nat} {hs : List Nat} {bs : List (List Int)} {cut pre : Int} {dead : Bool} (hd : DK w base g q s hs bs cut pre dead) (i : Int) (hr : dkAt hs.length dead i ≠ 0) : Calls Tryd.prog 30 #[.pointer (some ⟨g, 0, none⟩), .int .i64 i] w fun e w' => e = .returned (.tuple #[.slice none 0 0, .int .i64 (dkAt hs.length dead i)]) ∧ Drawn0 w w' := by
  have hu55 := Tryd.underlying55
  have HD := Aside0.mk hd
  clear hd
  have c0 : w.cell? ⟨g, 0, none⟩ = some (.slice (some ⟨q, 0, none⟩) hs.length hs.length) := (blk_cell HD.out.top 0).trans rfl
  have c1 : w.cell? ⟨g, 1, none⟩ = some (.int .i64 cut) := (blk_cell HD.out.top 1).trans rfl
  have c2 : w.cell? ⟨g, 2, none⟩ = some (.int .i64 pre) := (blk_cell HD.out.top 2).trans rfl
  have c3 : w.cell? ⟨g, 3, none⟩ = some (.bool dead) := (blk_cell HD.out.top 3).trans rfl
  have z0 := blk_frozen HD.out.top 0
  have z1 := blk_frozen HD.out.top 1
  have z2 := blk_frozen HD.out.top 2
  have z3 := blk_frozen HD.out.top 3
  obtain ⟨x, hx⟩ : ∃ x, x = dkAt hs.length dead i := ⟨_, rfl⟩
  rw [← hx] at hr ⊢
  have k1 : (x == 0) = false := by simpa using hr
  have k2 : (x = 0) = False := eq_false hr
  have HX := Aside0.mk hx
  clear hr hx
  go_enter Tryd.func30, Tryd.ntmps30
  go_wp2_with fail
  refine (disk_at.calls HD.out i).mono ?_
  rintro e w1 ⟨rfl, ⟨nd, rfl⟩⟩
  rw [← HX.out]
  (try dsimp only)
  go_wp2
  (try simp only [Exit.inBlock, Exit.then])
  first | go_ret | go_ret2
  exact ⟨rfl, by repeat (first | exact Drawn0.refl _ | exact ⟨nd, rfl⟩ | apply Drawn0.step)⟩
set_option maxHeartbeats 4000000 in
set_option maxRecDepth 100000 in
theorem disk_Read.ok {w : World} {base g q s : Nat} {hs : List Nat} {bs : List (List Int)} {cut pre : Int} {dead : Bool} (hd : DK w base g q s hs bs cut pre dead) (hz : s ≤ 65536) (k : Nat) (l : List Int) (hk : k < hs.length) (hl : bs[k]? = some l) (he : dead = false) : Calls Tryd.prog 30 #[.pointer (some ⟨g, 0, none⟩), .int .i64 (k : Int)] w fun e w' => ∃ c, e = .returned (.tuple #[.slice (some ⟨c, 0, none⟩) s s, .int .i64 0]) ∧ w'.heap[c]? = some (.cells (dkB l) 5 (0, 0)) ∧ w.heap.size ≤ c ∧ Below w.heap.size w w' := by
  have hu55 := Tryd.underlying55
  have HD := Aside0.mk hd
  clear hd
  have c0 : w.cell? ⟨g, 0, none⟩ = some (.slice (some ⟨q, 0, none⟩) hs.length hs.length) := (blk_cell HD.out.top 0).trans rfl
  have c1 : w.cell? ⟨g, 1, none⟩ = some (.int .i64 cut) := (blk_cell HD.out.top 1).trans rfl
  have c2 : w.cell? ⟨g, 2, none⟩ = some (.int .i64 pre) := (blk_cell HD.out.top 2).trans rfl
  have c3 : w.cell? ⟨g, 3, none⟩ = some (.bool dead) := (blk_cell HD.out.top 3).trans rfl
  have z0 := blk_frozen HD.out.top 0
  have z1 := blk_frozen HD.out.top 1
  have z2 := blk_frozen HD.out.top 2
  have z3 := blk_frozen HD.out.top 3
  subst he
  obtain ⟨b, l_, r0, r1, r2, r3⟩ := HD.out.at hk
  obtain rfl : l_ = l := Option.some.inj (r1.symm.trans hl)
  have hmk := dk_make (s : Int) (by omega) (by omega)
  rw [Int.toNat_natCast] at hmk
  have HK := Aside0.mk hk
  have H0 := Aside0.mk r0
  have H2 := Aside0.mk r2
  have H3 := Aside0.mk r3
  clear hk hl r1 r0 r2 r3
  go_enter Tryd.func30, Tryd.ntmps30
  go_wp2_with fail
  refine (disk_at.calls HD.out (k : Int)).mono ?_
  rintro e w1 ⟨rfl, ⟨nd, rfl⟩⟩
  rw [dkAt_ok HK.out]
  (try dsimp only)
  go_wp2_with fail
  refine (disk_Size.calls (HD.out.drewN nd) (by have := HK.out; omega)).mono ?_
  rintro e w1 ⟨rfl, ⟨nd2, rfl⟩⟩
  (try dsimp only)
  go_upto_region 5 with (fail)
  obtain ⟨c, hc⟩ : ∃ c, c = w.heap.size := ⟨_, rfl⟩
  have hcs : (w.drewN (nd + nd2)).heap.size = c := hc.symm
  have HB : Aside0 (Below w.heap.size w ((w.drewN (nd + nd2)).alloc (.cells (dkB (List.replicate s 0)) 5))) := ⟨below_alloc (pw_below_drewN (Below.refl _ _) _) _⟩
  have n0_ : Aside0 (DK ((w.drewN (nd + nd2)).alloc (.cells (dkB (List.replicate s 0)) 5)) base g q s hs bs cut pre false) := ⟨(HD.out.drewN (nd + nd2)).kept (S := fun _ => False) (DF.of_below (below_alloc (Below.refl _ _) _)) id id (fun _ _ => id)⟩
  have n1_ : Aside0 (((w.drewN (nd + nd2)).alloc (.cells (dkB (List.replicate s 0)) 5)).heap[b]? = some (.cells (dkB l_) 5 (0, 0))) := ⟨blk_alloc H3.out _⟩
  have n2_ : Aside0 (((w.drewN (nd + nd2)).alloc (.cells (dkB (List.replicate s 0)) 5)).heap[c]? = some (.cells (dkB (List.replicate s 0)) 5 (0, 0))) := ⟨by rw [← hcs]; exact blk_new _ _⟩
  have HC := Aside0.mk hc
  rw [← hc]
  generalize (w.drewN (nd + nd2)).alloc (.cells (dkB (List.replicate s 0)) 5) = W at HB n0_ n1_ n2_ ⊢
  clear HD c0 c1 c2 c3 z0 z1 z2 z3 hc hcs H3 hmk
  have HD := n0_
  have H3 := n1_
  have H4 := n2_
  clear n0_ n1_ n2_
  have hcp := dk_copy (bl := l_) (ad := ⟨b, 0, none⟩) (dCap := s) (sCap := s) H4.out (by rw [H2.out, List.length_replicate]; exact Nat.le_refl _) (fun j x hx => by rw [add_at]; exact (blk_cell H3.out j).trans (dkB_get hx))
  rw [H2.out, List.length_replicate, show l_ ++ (List.replicate s (0:Int)).drop s = l_ by simp] at hcp
  have c0 : W.cell? ⟨g, 0, none⟩ = some (.slice (some ⟨q, 0, none⟩) hs.length hs.length) := (blk_cell HD.out.top 0).trans rfl
  have r0 : W.cell? ⟨q, k, none⟩ = some (.slice (some ⟨b, 0, none⟩) s s) := (blk_cell HD.out.row k).trans (dkR_get H0.out)
  have q0 : ((k : Int) < (hs.length : Int)) = True := eq_true (by have := HK.out; omega)
  have q1 : (k < hs.length) = True := eq_true HK.out
  go_wp2
  (try simp only [Exit.inBlock, Exit.then])
  first | go_ret | go_ret2
  exact ⟨c, rfl, setRow_heap _ _ _ _ 5 (0, 0) H4.out, by have := HC.out; omega, below_setRow HB.out (by have := HC.out; omega) _⟩
set_option maxHeartbeats 4000000 in
set_option maxRecDepth 100000 in
theorem disk_Write.refused {w : World} {base g q s : Nat} {hs : List Nat} {bs : List (List Int)} {cut pre : Int} {dead : Bool} (hd : DK w base g q s hs bs cut pre dead) (i : Int) (hr : dkAt hs.length dead i ≠ 0) (ad : Addr) (bl : List Int) (cap : Nat) (hcap : bl.length ≤ cap) : Calls Tryd.prog 35 #[.pointer (some ⟨g, 0, none⟩), .int .i64 i, .slice (some ad) bl.length cap] w fun e w' => e = .returned (.int .i64 (dkAt hs.length dead i)) ∧ Drawn0 w w' := by
  have hu55 := Tryd.underlying55
  have HD := Aside0.mk hd
  clear hd
  have c0 : w.cell? ⟨g, 0, none⟩ = some (.slice (some ⟨q, 0, none⟩) hs.length hs.length) := (blk_cell HD.out.top 0).trans rfl
  have c1 : w.cell? ⟨g, 1, none⟩ = some (.int .i64 cut) := (blk_cell HD.out.top 1).trans rfl
  have c2 : w.cell? ⟨g, 2, none⟩ = some (.int .i64 pre) := (blk_cell HD.out.top 2).trans rfl
  have c3 : w.cell? ⟨g, 3, none⟩ = some (.bool dead) := (blk_cell HD.out.top 3).trans rfl
  have z0 := blk_frozen HD.out.top 0
  have z1 := blk_frozen HD.out.top 1
  have z2 := blk_frozen HD.out.top 2
  have z3 := blk_frozen HD.out.top 3
  obtain ⟨x, hx⟩ : ∃ x, x = dkAt hs.length dead i := ⟨_, rfl⟩
  rw [← hx] at hr ⊢
  have k1 : (x == 0) = false := by simpa using hr
  have k2 : (x = 0) = False := eq_false hr
  have HX := Aside0.mk hx
  clear hr hx hcap
  go_enter Tryd.func35, Tryd.ntmps35
  go_wp2_with fail
  refine (disk_at.calls HD.out i).mono ?_
  rintro e w1 ⟨rfl, ⟨nd, rfl⟩⟩
  rw [← HX.out]
  (try dsimp only)
  go_wp2
  (try simp only [Exit.inBlock, Exit.then])
  first | go_ret | go_ret2
  exact ⟨rfl, by repeat (first | exact Drawn0.refl _ | exact ⟨nd, rfl⟩ | apply Drawn0.step)⟩
set_option maxHeartbeats 4000000 in
set_option maxRecDepth 100000 in
theorem disk_Write.size {w : World} {base g q s : Nat} {hs : List Nat} {bs : List (List Int)} {cut pre : Int} {dead : Bool} (hd : DK w base g q s hs bs cut pre dead) (k : Nat) (hk : k < hs.length) (he : dead = false) (ad : Addr) (bl : List Int) (cap : Nat) (hcap : bl.length ≤ cap) (hl : bl.length ≠ s) : Calls Tryd.prog 35 #[.pointer (some ⟨g, 0, none⟩), .int .i64 (k : Int), .slice (some ad) bl.length cap] w fun e w' => e = .returned (.int .i64 41) ∧ Drawn0 w w' := by
  have hu55 := Tryd.underlying55
  have HD := Aside0.mk hd
  clear hd
  have c0 : w.cell? ⟨g, 0, none⟩ = some (.slice (some ⟨q, 0, none⟩) hs.length hs.length) := (blk_cell HD.out.top 0).trans rfl
  have c1 : w.cell? ⟨g, 1, none⟩ = some (.int .i64 cut) := (blk_cell HD.out.top 1).trans rfl
  have c2 : w.cell? ⟨g, 2, none⟩ = some (.int .i64 pre) := (blk_cell HD.out.top 2).trans rfl
  have c3 : w.cell? ⟨g, 3, none⟩ = some (.bool dead) := (blk_cell HD.out.top 3).trans rfl
  have z0 := blk_frozen HD.out.top 0
  have z1 := blk_frozen HD.out.top 1
  have z2 := blk_frozen HD.out.top 2
  have z3 := blk_frozen HD.out.top 3
  have k1 : ((bl.length : Int) == (s : Int)) = false := beq_eq_false_iff_ne.2 (by omega)
  have k2 : ((bl.length : Int) = (s : Int)) = False := eq_false (by omega)
  have k3 : (bl.length = s) = False := eq_false hl
  have k4 : (bl.length == s) = false := by simpa using hl
  clear hl
  subst he
  have HK := Aside0.mk hk
  have HC := Aside0.mk hcap
  clear hk hcap
  go_enter Tryd.func35, Tryd.ntmps35
  go_wp2_with fail
  refine (disk_at.calls HD.out (k : Int)).mono ?_
  rintro e w1 ⟨rfl, ⟨nd, rfl⟩⟩
  rw [dkAt_ok HK.out]
  (try dsimp only)
  go_wp2_with fail
  refine (disk_Size.calls (HD.out.drewN nd) (by have := HK.out; omega)).mono ?_
  rintro e w1 ⟨rfl, ⟨nd2, rfl⟩⟩
  (try dsimp only)
  go_wp2
  (try simp only [Exit.inBlock, Exit.then])
  first | go_ret | go_ret2
  exact ⟨rfl, by repeat (first | exact Drawn0.refl _ | exact ⟨_, rfl⟩ | apply Drawn0.step)⟩
set_option maxHeartbeats 4000000 in
set_option maxRecDepth 100000 in
theorem disk_Write.ok {w : World} {base g q s : Nat} {hs : List Nat} {bs : List (List Int)} {cut pre : Int} {dead : Bool} (hd : DK w base g q s hs bs cut pre dead) (k : Nat) (hk : k < hs.length) (he : dead = false) (ad : Addr) (bl : List Int) (cap : Nat) (hcap : bl.length ≤ cap) (hs1 : ∀ (j : Nat) (x : Int), bl[j]? = some x → w.cell? (ad.add j) = some (.int .u8 x)) (hl : bl.length = s) (hc : cut ≠ 0) (hc2 : -9223372036854775808 ≤ cut ∧ cut < 9223372036854775808) (hab : ad.block ≠ g) : Calls Tryd.prog 35 #[.pointer (some ⟨g, 0, none⟩), .int .i64 (k : Int), .slice (some ad) bl.length cap] w fun e w' => e = .returned (.int .i64 0) ∧ DK w' base g q s hs (bs.set k bl) (if 0 < cut then cut - 1 else cut) pre false ∧ DF (fun k => k = g ∨ k ∈ hs) w w' := by
  have hu55 := Tryd.underlying55
  have HD := Aside0.mk hd
  clear hd
  have c0 : w.cell? ⟨g, 0, none⟩ = some (.slice (some ⟨q, 0, none⟩) hs.length hs.length) := (blk_cell HD.out.top 0).trans rfl
  have c1 : w.cell? ⟨g, 1, none⟩ = some (.int .i64 cut) := (blk_cell HD.out.top 1).trans rfl
  have c2 : w.cell? ⟨g, 2, none⟩ = some (.int .i64 pre) := (blk_cell HD.out.top 2).trans rfl
  have c3 : w.cell? ⟨g, 3, none⟩ = some (.bool dead) := (blk_cell HD.out.top 3).trans rfl
  have z0 := blk_frozen HD.out.top 0
  have z1 := blk_frozen HD.out.top 1
  have z2 := blk_frozen HD.out.top 2
  have z3 := blk_frozen HD.out.top 3
  obtain ⟨b, l_, r0, r1, r2, r3⟩ := HD.out.at hk
  subst hl
  have H0 := Aside0.mk r0
  have H2 := Aside0.mk r2
  have H3 := Aside0.mk r3
  have HS := Aside0.mk hs1
  have HAB := Aside0.mk hab
  have HBG := Aside0.mk (show b ≠ g from fun e => HD.out.ne.2.1 (by rw [← e]; exact List.mem_of_getElem? r0))
  clear hs1 hab r0 r1 r2 r3
  have k0 : (cut == 0) = false := by simpa using hc
  have k00 : (cut = 0) = False := eq_false hc
  by_cases hp : 0 < cut
  · have kp : decide (0 < cut) = true := decide_eq_true hp
    rw [if_pos hp]
    have w7 : wrap64 (cut - 1) = cut - 1 := by unfold wrap64; omega
    clear hp hc hc2
    subst he
    have HK := Aside0.mk hk
    have HC := Aside0.mk hcap
    clear hk hcap
    go_enter Tryd.func35, Tryd.ntmps35
    go_wp2_with fail
    refine (disk_at.calls HD.out (k : Int)).mono ?_
    rintro e w1 ⟨rfl, ⟨nd, rfl⟩⟩
    rw [dkAt_ok HK.out]
    (try dsimp only)
    go_wp2_with fail
    refine (disk_Size.calls (HD.out.drewN nd) (by have := HK.out; omega)).mono ?_
    rintro e w1 ⟨rfl, ⟨nd2, rfl⟩⟩
    (try dsimp only)

    go_upto_region 12 with (fail)
    have n0_ : Aside0 (DK ((w.drewN (nd + nd2)).setCell ⟨g, 1, none⟩ (.int .i64 (cut - 1))) base g q bl.length hs bs _ pre false) := ⟨(HD.out.drewN _).set1 _⟩
    have n1_ : Aside0 (((w.drewN (nd + nd2)).setCell ⟨g, 1, none⟩ (.int .i64 (cut - 1))).heap[b]? = some (.cells (dkB l_) 5 (0, 0))) := ⟨blk_far (p := ⟨g, 1, none⟩) (blk_drewN H3.out _) HBG.out _⟩
    have n2_ : Aside0 (∀ (j : Nat) (x : Int), bl[j]? = some x → ((w.drewN (nd + nd2)).setCell ⟨g, 1, none⟩ (.int .i64 (cut - 1))).cell? (ad.add j) = some (.int .u8 x)) := ⟨fun j x hx => (cell_off _ _ (by rw [add_block]; exact HAB.out)).trans (HS.out j x hx)⟩
    have n3_ : Aside0 (DF (fun k => k = g ∨ k ∈ hs) w ((w.drewN (nd + nd2)).setCell ⟨g, 1, none⟩ (.int .i64 (cut - 1)))) := ⟨DF.set (p := ⟨g, 1, none⟩) (⟨rfl, rfl, rfl, Nat.le_refl _, fun _ _ _ => rfl⟩ : DF (fun k => k = g ∨ k ∈ hs) w (w.drewN (nd + nd2))) (Or.inl rfl) _⟩
    generalize (w.drewN (nd + nd2)).setCell ⟨g, 1, none⟩ (.int .i64 (cut - 1)) = W at n0_ n1_ n2_ n3_ ⊢
    clear HD c0 c1 c2 c3 z0 z1 z2 z3 H3 HS
    have HD := n0_
    have H3 := n1_
    have HS := n2_
    have HF := n3_
    clear n0_ n1_ n2_ n3_
    have hcp := dk_copy (bl := bl) (ad := ad) (dCap := bl.length) (sCap := cap) H3.out (by rw [H2.out]; exact Nat.le_refl _) HS.out
    rw [H2.out, show bl ++ l_.drop bl.length = bl by rw [List.drop_of_length_le (by rw [H2.out]; exact Nat.le_refl _), List.append_nil]] at hcp
    have c0 : W.cell? ⟨g, 0, none⟩ = some (.slice (some ⟨q, 0, none⟩) hs.length hs.length) := (blk_cell HD.out.top 0).trans rfl
    have r0 : W.cell? ⟨q, k, none⟩ = some (.slice (some ⟨b, 0, none⟩) bl.length bl.length) := (blk_cell HD.out.row k).trans (dkR_get H0.out)
    have q0 : ((k : Int) < (hs.length : Int)) = True := eq_true (by have := HK.out; omega)
    have q1 : (k < hs.length) = True := eq_true HK.out
    go_wp2
    (try simp only [Exit.inBlock, Exit.then])
    go_ret
    exact ⟨rfl, HD.out.setB H0.out rfl, HF.out.setRow (Or.inr (List.mem_of_getElem? H0.out)) _⟩
  · have kp : decide (0 < cut) = false := decide_eq_false hp
    rw [if_neg hp]
    clear hp hc hc2
    subst he
    have HK := Aside0.mk hk
    have HC := Aside0.mk hcap
    clear hk hcap
    go_enter Tryd.func35, Tryd.ntmps35
    go_wp2_with fail
    refine (disk_at.calls HD.out (k : Int)).mono ?_
    rintro e w1 ⟨rfl, ⟨nd, rfl⟩⟩
    rw [dkAt_ok HK.out]
    (try dsimp only)
    go_wp2_with fail
    refine (disk_Size.calls (HD.out.drewN nd) (by have := HK.out; omega)).mono ?_
    rintro e w1 ⟨rfl, ⟨nd2, rfl⟩⟩
    (try dsimp only)

    go_upto_region 12 with (fail)
    have n0_ : Aside0 (DK (w.drewN (nd + nd2)) base g q bl.length hs bs _ pre false) := ⟨HD.out.drewN _⟩
    have n1_ : Aside0 ((w.drewN (nd + nd2)).heap[b]? = some (.cells (dkB l_) 5 (0, 0))) := ⟨blk_drewN H3.out _⟩
    have n2_ : Aside0 (∀ (j : Nat) (x : Int), bl[j]? = some x → (w.drewN (nd + nd2)).cell? (ad.add j) = some (.int .u8 x)) := ⟨HS.out⟩
    have n3_ : Aside0 (DF (fun k => k = g ∨ k ∈ hs) w (w.drewN (nd + nd2))) := ⟨⟨rfl, rfl, rfl, Nat.le_refl _, fun _ _ _ => rfl⟩⟩
    generalize w.drewN (nd + nd2) = W at n0_ n1_ n2_ n3_ ⊢
    clear HD c0 c1 c2 c3 z0 z1 z2 z3 H3 HS
    have HD := n0_
    have H3 := n1_
    have HS := n2_
    have HF := n3_
    clear n0_ n1_ n2_ n3_
    have hcp := dk_copy (bl := bl) (ad := ad) (dCap := bl.length) (sCap := cap) H3.out (by rw [H2.out]; exact Nat.le_refl _) HS.out
    rw [H2.out, show bl ++ l_.drop bl.length = bl by rw [List.drop_of_length_le (by rw [H2.out]; exact Nat.le_refl _), List.append_nil]] at hcp
    have c0 : W.cell? ⟨g, 0, none⟩ = some (.slice (some ⟨q, 0, none⟩) hs.length hs.length) := (blk_cell HD.out.top 0).trans rfl
    have r0 : W.cell? ⟨q, k, none⟩ = some (.slice (some ⟨b, 0, none⟩) bl.length bl.length) := (blk_cell HD.out.row k).trans (dkR_get H0.out)
    have q0 : ((k : Int) < (hs.length : Int)) = True := eq_true (by have := HK.out; omega)
    have q1 : (k < hs.length) = True := eq_true HK.out
    go_wp2
    (try simp only [Exit.inBlock, Exit.then])
    go_ret
    exact ⟨rfl, HD.out.setB H0.out rfl, HF.out.setRow (Or.inr (List.mem_of_getElem? H0.out)) _⟩
set_option maxHeartbeats 4000000 in
set_option maxRecDepth 100000 in
theorem disk_Write.fell {w : World} {base g q s : Nat} {hs : List Nat} {bs : List (List Int)} {cut pre : Int} {dead : Bool} (hd : DK w base g q s hs bs cut pre dead) (k p : Nat) (l : List Int) (hk : k < hs.length) (hbl : bs[k]? = some l) (he : dead = false) (ad : Addr) (bl : List Int) (cap : Nat) (hcap : bl.length ≤ cap) (hs1 : ∀ (j : Nat) (x : Int), bl[j]? = some x → w.cell? (ad.add j) = some (.int .u8 x)) (hl : bl.length = s) (hc : cut = 0) (hp : pre = (p : Int)) (hps : p ≤ s) (hab : ad.block ≠ g) : Calls Tryd.prog 35 #[.pointer (some ⟨g, 0, none⟩), .int .i64 (k : Int), .slice (some ad) bl.length cap] w fun e w' => e = .returned (.int .i64 42) ∧ DK w' base g q s hs (bs.set k (bl.take p ++ l.drop p)) 0 pre true ∧ DF (fun k => k = g ∨ k ∈ hs) w w' := by
  have hu55 := Tryd.underlying55
  have HD := Aside0.mk hd
  clear hd
  have c0 : w.cell? ⟨g, 0, none⟩ = some (.slice (some ⟨q, 0, none⟩) hs.length hs.length) := (blk_cell HD.out.top 0).trans rfl
  have c1 : w.cell? ⟨g, 1, none⟩ = some (.int .i64 cut) := (blk_cell HD.out.top 1).trans rfl
  have c2 : w.cell? ⟨g, 2, none⟩ = some (.int .i64 pre) := (blk_cell HD.out.top 2).trans rfl
  have c3 : w.cell? ⟨g, 3, none⟩ = some (.bool dead) := (blk_cell HD.out.top 3).trans rfl
  have z0 := blk_frozen HD.out.top 0
  have z1 := blk_frozen HD.out.top 1
  have z2 := blk_frozen HD.out.top 2
  have z3 := blk_frozen HD.out.top 3
  obtain ⟨b, l_, r0, r1, r2, r3⟩ := HD.out.at hk
  obtain rfl : l_ = l := Option.some.inj (r1.symm.trans hbl)
  subst hc
  subst hp
  have H0 := Aside0.mk r0
  have H2 := Aside0.mk r2
  have H3 := Aside0.mk r3
  have HS := Aside0.mk hs1
  have HAB := Aside0.mk hab
  have HP := Aside0.mk (And.intro hps hl)
  have HBG := Aside0.mk (show b ≠ g from fun e => HD.out.ne.2.1 (by rw [← e]; exact List.mem_of_getElem? r0))
  have k4 : ((bl.length : Int) == (s : Int)) = true := beq_iff_eq.2 (by omega)
  have k5 : ((bl.length : Int) = (s : Int)) = True := eq_true (by omega)
  have k6 : (bl.length == s) = true := beq_iff_eq.2 hl
  have k7 : (bl.length = s) = True := eq_true hl
  clear hs1 hab r0 r1 r2 r3 hbl hl hps
  subst he
  have HK := Aside0.mk hk
  have HC := Aside0.mk hcap
  clear hk hcap
  go_enter Tryd.func35, Tryd.ntmps35
  go_wp2_with fail
  refine (disk_at.calls HD.out (k : Int)).mono ?_
  rintro e w1 ⟨rfl, ⟨nd, rfl⟩⟩
  rw [dkAt_ok HK.out]
  (try dsimp only)
  go_wp2_with fail
  refine (disk_Size.calls (HD.out.drewN nd) (by have := HK.out; omega)).mono ?_
  rintro e w1 ⟨rfl, ⟨nd2, rfl⟩⟩
  (try dsimp only)
  go_upto_region 7 with (fail)
  have n0_ : Aside0 (DK (w.drewN (nd + nd2)) base g q s hs bs _ _ false) := ⟨HD.out.drewN _⟩
  have n1_ : Aside0 ((w.drewN (nd + nd2)).heap[b]? = some (.cells (dkB l_) 5 (0, 0))) := ⟨blk_drewN H3.out _⟩
  have n2_ : Aside0 (∀ (j : Nat) (x : Int), bl[j]? = some x → (w.drewN (nd + nd2)).cell? (ad.add j) = some (.int .u8 x)) := ⟨HS.out⟩
  have n3_ : Aside0 (DF (fun k => k = g ∨ k ∈ hs) w (w.drewN (nd + nd2))) := ⟨⟨rfl, rfl, rfl, Nat.le_refl _, fun _ _ _ => rfl⟩⟩
  generalize w.drewN (nd + nd2) = W at n0_ n1_ n2_ n3_ ⊢
  clear HD c0 c1 c2 c3 z0 z1 z2 z3 H3 HS
  have HD := n0_
  have H3 := n1_
  have HS := n2_
  have HF := n3_
  clear n0_ n1_ n2_ n3_
  have q0 : ((k : Int) < (hs.length : Int)) = True := eq_true (by have := HK.out; omega)
  have q1 : (k < hs.length) = True := eq_true HK.out
  have q2 : (p ≤ cap) = True := eq_true (by have := HP.out; have := HC.out; omega)
  have q3 : ((p : Int) ≤ (cap : Int)) = True := eq_true (by have := HP.out; have := HC.out; omega)
  have q4 : ((cap : Int) < (p : Int)) = False := eq_false (by have := HP.out; have := HC.out; omega)
  have q5 : (cap < p) = False := eq_false (by have := HP.out; have := HC.out; omega)
  refine start_ (n := 14) (S := fun w' => w'.cell? ⟨g, 0, none⟩ = some (.slice (some ⟨q, 0, none⟩) hs.length hs.length) ∧ w'.cell? ⟨q, k, none⟩ = some (.slice (some ⟨b, 0, none⟩) s s) ∧ w'.cell? ⟨g, 2, none⟩ = some (.int .i64 (p : Int))) (ds := []) #[false, false, false, false, false, false, false, false, false, false, false, false, false, false] (by kernel_rfl) rfl rfl ⟨(blk_cell HD.out.top 0).trans rfl, (blk_cell HD.out.row k).trans (dkR_get H0.out), (blk_cell HD.out.top 2).trans rfl⟩ (fun hHeld => ?_)
  refine with_tabW disk_Write.tab7 disk_Write.bits7 (fun HT_ HW_ => ?_)
  refine pure_ (i := 0) (N := some 24) (v := ?_) (a' := ?_) #[true, false, false, false, false, false, false, false, false, false, false, false, false, false] rfl rfl (any_of HT_.out (by kernel_rfl)) (fun _ _ _ h => h) (Or.inl ⟨by rfl, ?_⟩) ?_ ?_
  rotate_left
  · intro w'
    go_simp
    with_reducible rfl
  rotate_left
  · simp only [Act.put, List.setIfInBounds_toArray, List.set_cons_zero, List.set_cons_succ, i64_w, i32_w]
    rfl
  refine pure_ (i := 1) (N := some 25) (v := ?_) (a' := ?_) #[true, true, false, false, false, false, false, false, false, false, false, false, false, false] rfl rfl (any_of HT_.out (by kernel_rfl)) (fun _ _ _ h => h) (Or.inl ⟨by rfl, ?_⟩) ?_ ?_
  rotate_left
  · intro w'
    go_simp
    with_reducible rfl
  rotate_left
  · simp only [Act.put, List.setIfInBounds_toArray, List.set_cons_zero, List.set_cons_succ, i64_w, i32_w]
    rfl
  refine pure_ (i := 2) (N := some 26) (v := ?_) (a' := ?_) #[true, true, true, false, false, false, false, false, false, false, false, false, false, false] rfl rfl (any_of HT_.out (by kernel_rfl)) (fun _ _ _ h => h) (Or.inl ⟨by rfl, ?_⟩) ?_ ?_
  rotate_left
  · intro w'
    go_simp
    with_reducible rfl
  rotate_left
  · simp only [Act.put, List.setIfInBounds_toArray, List.set_cons_zero, List.set_cons_succ, i64_w, i32_w]
    rfl
  refine take_ (i := 3) (N := some 27) (v := ?_) (a' := ?_) #[true, true, true, true, false, false, false, false, false, false, false, false, false, false] rfl rfl (take_ofW HT_.out HW_.out (by kernel_rfl)) (fun _ _ _ h => h) (Or.inl ⟨by rfl, ?_⟩) hHeld ?_ ?_
  rotate_left
  · intro w' s0
    obtain ⟨s0, s1, s2⟩ := s0
    go_simp
    with_reducible rfl
  rotate_left
  · simp only [Act.put, List.setIfInBounds_toArray, List.set_cons_zero, List.set_cons_succ, i64_w, i32_w]
    rfl
  refine pure_ (i := 4) (N := some 28) (v := ?_) (a' := ?_) #[true, true, true, true, true, false, false, false, false, false, false, false, false, false] rfl rfl (any_of HT_.out (by kernel_rfl)) (fun _ _ _ h => h) (Or.inl ⟨by rfl, ?_⟩) ?_ ?_
  rotate_left
  · intro w'
    go_simp
    with_reducible rfl
  rotate_left
  · simp only [Act.put, List.setIfInBounds_toArray, List.set_cons_zero, List.set_cons_succ, i64_w, i32_w]
    rfl
  refine pure_ (i := 5) (N := some 29) (v := ?_) (a' := ?_) #[true, true, true, true, true, true, false, false, false, false, false, false, false, false] rfl rfl (any_of HT_.out (by kernel_rfl)) (fun _ _ _ h => h) (Or.inl ⟨by rfl, ?_⟩) ?_ ?_
  rotate_left
  · intro w'
    go_simp
    with_reducible rfl
  rotate_left
  · simp only [Act.put, List.setIfInBounds_toArray, List.set_cons_zero, List.set_cons_succ, i64_w, i32_w]
    rfl
  refine take_ (i := 6) (N := some 30) (v := ?_) (a' := ?_) #[true, true, true, true, true, true, true, false, false, false, false, false, false, false] rfl rfl (take_ofW HT_.out HW_.out (by kernel_rfl)) (fun _ _ _ h => h) (Or.inl ⟨by rfl, ?_⟩) hHeld ?_ ?_
  rotate_left
  · intro w' s0
    obtain ⟨s0, s1, s2⟩ := s0
    go_simp
    with_reducible rfl
  rotate_left
  · simp only [Act.put, List.setIfInBounds_toArray, List.set_cons_zero, List.set_cons_succ, i64_w, i32_w]
    rfl
  refine pure_ (i := 7) (N := some 31) (v := ?_) (a' := ?_) #[true, true, true, true, true, true, true, true, false, false, false, false, false, false] rfl rfl (any_of HT_.out (by kernel_rfl)) (fun _ _ _ h => h) (Or.inl ⟨by rfl, ?_⟩) ?_ ?_
  rotate_left
  · intro w'
    go_simp
    with_reducible rfl
  rotate_left
  · simp only [Act.put, List.setIfInBounds_toArray, List.set_cons_zero, List.set_cons_succ, i64_w, i32_w]
    rfl
  refine pure_ (i := 8) (N := some 32) (v := ?_) (a' := ?_) #[true, true, true, true, true, true, true, true, true, false, false, false, false, false] rfl rfl (any_of HT_.out (by kernel_rfl)) (fun _ _ _ h => h) (Or.inl ⟨by rfl, ?_⟩) ?_ ?_
  rotate_left
  · intro w'
    go_simp
    with_reducible rfl
  rotate_left
  · simp only [Act.put, List.setIfInBounds_toArray, List.set_cons_zero, List.set_cons_succ, i64_w, i32_w]
    rfl
  refine pure_ (i := 9) (N := some 33) (v := ?_) (a' := ?_) #[true, true, true, true, true, true, true, true, true, true, false, false, false, false] rfl rfl (any_of HT_.out (by kernel_rfl)) (fun _ _ _ h => h) (Or.inl ⟨by rfl, ?_⟩) ?_ ?_
  rotate_left
  · intro w'
    go_simp
    with_reducible rfl
  rotate_left
  · simp only [Act.put, List.setIfInBounds_toArray, List.set_cons_zero, List.set_cons_succ, i64_w, i32_w]
    rfl
  refine pure_ (i := 10) (N := some 34) (v := ?_) (a' := ?_) #[true, true, true, true, true, true, true, true, true, true, true, false, false, false] rfl rfl (any_of HT_.out (by kernel_rfl)) (fun _ _ _ h => h) (Or.inl ⟨by rfl, ?_⟩) ?_ ?_
  rotate_left
  · intro w'
    go_simp
    with_reducible rfl
  rotate_left
  · simp only [Act.put, List.setIfInBounds_toArray, List.set_cons_zero, List.set_cons_succ, i64_w, i32_w]
    rfl
  refine take_ (i := 11) (N := some 35) (v := ?_) (a' := ?_) #[true, true, true, true, true, true, true, true, true, true, true, true, false, false] rfl rfl (take_ofW HT_.out HW_.out (by kernel_rfl)) (fun _ _ _ h => h) (Or.inl ⟨by rfl, ?_⟩) hHeld ?_ ?_
  rotate_left
  · intro w' s0
    obtain ⟨s0, s1, s2⟩ := s0
    go_simp
    with_reducible rfl
  rotate_left
  · simp only [Act.put, List.setIfInBounds_toArray, List.set_cons_zero, List.set_cons_succ, i64_w, i32_w]
    rfl
  refine pure_ (i := 12) (N := some 36) (v := ?_) (a' := ?_) #[true, true, true, true, true, true, true, true, true, true, true, true, true, false] rfl rfl (any_of HT_.out (by kernel_rfl)) (fun _ _ _ h => h) (Or.inl ⟨by rfl, ?_⟩) ?_ ?_
  rotate_left
  · intro w'
    go_simp
    with_reducible rfl
  rotate_left
  · simp only [Act.put, List.setIfInBounds_toArray, List.set_cons_zero, List.set_cons_succ, i64_w, i32_w]
    rfl
  refine one_ (i := 13) (N := some 37) #[true, true, true, true, true, true, true, true, true, true, true, true, true, true] rfl rfl (one_of HT_.out (by kernel_rfl)) (by decide) (fun K hK => ?_)
  refine value_ (v := .int .i64 (p : Int)) (w1 := W.drew.setRow b (dkB (bl.take p ++ l_.drop p))) (by rfl) rfl ?_ ?_
  · have hcp := dk_copy (W := W.drew) (bl := bl.take p) (ad := ad) (dCap := s) (sCap := cap) (blk_drew H3.out) (by have := H2.out; have := HP.out; rw [List.length_take]; omega) (fun j x hx => HS.out j x (by
      rw [List.getElem?_take] at hx
      split at hx
      · exact hx
      · cases hx))
    rw [H2.out, show (bl.take p).length = p by have := HP.out; rw [List.length_take]; omega] at hcp
    go_simp
  have n0_ : Aside0 (DK (W.drew.setRow b (dkB (bl.take p ++ l_.drop p))) base g q s hs (bs.set k (bl.take p ++ l_.drop p)) _ _ false) := ⟨(HD.out.kept (w' := W.drew) (S := fun _ => False) ⟨rfl, rfl, rfl, Nat.le_refl _, fun _ _ _ => rfl⟩ id id (fun _ _ => id)).setB H0.out (by have := H2.out; have := HP.out; rw [List.length_append, List.length_take, List.length_drop]; omega)⟩
  have n3_ : Aside0 (DF (fun k => k = g ∨ k ∈ hs) w (W.drew.setRow b (dkB (bl.take p ++ l_.drop p)))) := ⟨DF.setRow (⟨HF.out.os, HF.out.tape, HF.out.output, HF.out.size, HF.out.block⟩ : DF (fun k => k = g ∨ k ∈ hs) w W.drew) (Or.inr (List.mem_of_getElem? H0.out)) _⟩
  generalize W.drew.setRow b (dkB (bl.take p ++ l_.drop p)) = W2 at n0_ n3_ ⊢
  clear HD HF H3 HS
  have HD := n0_
  have HF := n3_
  clear n0_ n3_
  refine hK.out _ _ ⟨(blk_cell HD.out.top 0).trans rfl, (blk_cell HD.out.row k).trans (dkR_get H0.out), (blk_cell HD.out.top 2).trans rfl⟩ (fun hHeld => ?_)
  clear hK K
  refine norm_ (a' := ?_) ?_ ?_
  rotate_left
  · show Act.put _ (some 37) _ = _
    simp only [Act.put, List.setIfInBounds_toArray, List.set_cons_zero, List.set_cons_succ, i64_w, i32_w]
    rfl
  refine done_ (done_of HT_.out (by kernel_rfl)) ?_
  clear HT_ HW_ hHeld
  have c0 : W2.cell? ⟨g, 0, none⟩ = some (.slice (some ⟨q, 0, none⟩) hs.length hs.length) := (blk_cell HD.out.top 0).trans rfl
  have c1 : W2.cell? ⟨g, 1, none⟩ = some (.int .i64 0) := (blk_cell HD.out.top 1).trans rfl
  have c2 : W2.cell? ⟨g, 2, none⟩ = some (.int .i64 (p : Int)) := (blk_cell HD.out.top 2).trans rfl
  have c3 : W2.cell? ⟨g, 3, none⟩ = some (.bool false) := (blk_cell HD.out.top 3).trans rfl
  have z0 := blk_frozen HD.out.top 0
  have z1 := blk_frozen HD.out.top 1
  have z2 := blk_frozen HD.out.top 2
  have z3 := blk_frozen HD.out.top 3
  go_wp2
  (try simp only [Exit.inBlock, Exit.then])
  go_ret
  exact ⟨rfl, HD.out.set3 true, HF.out.set (p := ⟨g, 3, none⟩) (Or.inl rfl) _⟩
end Go.Proofs.YtgeggcifhojpmaaDoor.PB
