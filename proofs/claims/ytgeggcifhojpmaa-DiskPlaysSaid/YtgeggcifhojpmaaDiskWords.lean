import Derived.Test.YtgeggcifhojpmaaPAx0
import Derived.Laws.CopyRow
import Derived.Laws.MakeOwn
namespace Go.Proofs.Ytgeggcifhojpmaa.PA
open Go.RowKit Go.Proofs.YtgeggcifhojpmaaW.PrintWords Go.Proofs.YtgeggcifhojpmaaW.PrintLast Go.Proofs.YtgeggcifhojpmaaW.PrintMore
attribute [local go_sem] max2_int min2_int max_two min_two max_three min_three max_four min_four   -- for this text's walks alone
set_option linter.unusedVariables false
set_option linter.unusedSimpArgs false

/-- The cells of a row of bytes; of a row of such rows, each of s bytes. -/
def dkB (l : List Int) : Array Value := (l.map (Value.int .u8)).toArray
def dkR (s : Nat) (hs : List Nat) : Array Value := (hs.map fun b => Value.slice (some ⟨b, 0, none⟩) s s).toArray
/-- A disk at block g: its blocks' row at block h, its blocks at hs, what is in them bs. -/
structure DK (W : World) (base g h s : Nat) (hs : List Nat) (bs : List (List Int)) (cut pre : Int) (dead : Bool) : Prop where
  top : W.heap[g]? = some (.cells #[.slice (some ⟨h, 0, none⟩) hs.length hs.length, .int .i64 cut, .int .i64 pre, .bool dead] 49 (0, 0))
  row : W.heap[h]? = some (.cells (dkR s hs) 27 (0, 0))
  len : bs.length = hs.length
  nodup : hs.Nodup
  each : ∀ (i b : Nat) (l : List Int), hs[i]? = some b → bs[i]? = some l → l.length = s ∧ W.heap[b]? = some (.cells (dkB l) 5 (0, 0))
  own : base ≤ g ∧ base ≤ h ∧ ∀ b ∈ hs, base ≤ b
theorem dkB_size (l : List Int) : (dkB l).size = l.length := by simp [dkB]
theorem dkR_size (s : Nat) (hs : List Nat) : (dkR s hs).size = hs.length := by simp [dkR]
theorem dkR_get {s : Nat} {hs : List Nat} {i b : Nat} (h : hs[i]? = some b) : (dkR s hs)[i]? = some (.slice (some ⟨b, 0, none⟩) s s) := by simp [dkR, h]
theorem made_int (n : Nat) : madeCells (Value.int .u8 0).cells (n * 1) = dkB (List.replicate n 0) := by
  apply Array.ext_getElem?
  intro i
  by_cases h : i < n
  · simp [madeCells, dkB, Value.cells, h, Nat.mod_one]
  · simp [madeCells, dkB, Value.cells, h]
theorem made_row (n : Nat) : madeCells (Value.slice none 0 0).cells (n * 1) = (List.replicate n (Value.slice none 0 0)).toArray := by
  apply Array.ext_getElem?
  intro i
  by_cases h : i < n
  · simp [madeCells, Value.cells, h, Nat.mod_one]
  · simp [madeCells, Value.cells, h]
theorem dk_make (s : Int) (h0 : 0 ≤ s) (h1 : s ≤ 1000000) (W : World) : (Instr.makeSlice 27 (.int .i64 s) (.int .i64 s)).run Try.prog W = .ok (.slice (some ⟨W.heap.size, 0, none⟩) s.toNat s.toNat) (W.alloc (.cells (dkB (List.replicate s.toNat 0)) 5)) := by
  obtain ⟨i, hi, hz, hs, hb⟩ := info_parts info5
  rw [run_make W 27 5 i (.int .u8 0) Try.underlying27 hi hz .i64 .i64 s s h0 (Int.le_refl _) (by rw [hb]; omega) (by omega), hs, made_int]
theorem dk_makes (n : Int) (h0 : 0 ≤ n) (h1 : n ≤ 1000000) (W : World) : (Instr.makeSlice 39 (.int .i64 n) (.int .i64 n)).run Try.prog W = .ok (.slice (some ⟨W.heap.size, 0, none⟩) n.toNat n.toNat) (W.alloc (.cells (List.replicate n.toNat (Value.slice none 0 0)).toArray 27)) := by
  obtain ⟨i, hi, hz, hs, hb⟩ : ∃ i : TypeInfo, Try.prog.info? 27 = some i ∧ i.zero = some (.slice none 0 0) ∧ i.size = 1 ∧ i.bytes = 24 := by
    have h6 : (Try.prog.info? 27).map (fun i => (i.zero, i.size, i.bytes)) = some (some (.slice none 0 0), 1, 24) := by kernel_rfl
    cases hq : Try.prog.info? 27 with
    | none => rw [hq] at h6; cases h6
    | some i =>
      rw [hq] at h6
      simp only [Option.map_some, Option.some.injEq, Prod.mk.injEq] at h6
      exact ⟨i, rfl, h6.1, h6.2.1, h6.2.2⟩
  rw [run_make W 39 27 i (.slice none 0 0) Try.underlying39 hi hz .i64 .i64 n n h0 (Int.le_refl _) (by rw [hb]; omega) (by omega), hs, made_row]
end Go.Proofs.Ytgeggcifhojpmaa.PA
