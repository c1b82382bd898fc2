/- Words of this session beside the print's: a cut with a capacity; a nil slice; an empty new row. -/
import Derived.Test.YtgeggcifhojpmaaWWords
import Derived.WalkSpells
namespace Go.Proofs.YtgeggcifhojpmaaW.PrintWords
open Go.RowKit
set_option linter.unusedVariables false
set_option linter.unusedSimpArgs false
section
variable {P : Program} {α : Type}
/-- 'xs[a:b:b]' of a slice that is read. -/
theorem print_mid3_of (enc : α → Value) (d : α) (t e : TypeId) (kl kh km : IntKind) {i : TypeInfo} (ht : P.underlying t = some (.slice e)) (hi : P.info? e = some i) (hsz : i.size = 1) (A : Option Addr) (c : Nat) (xs : List α) (a b : Int) (h0 : 0 ≤ a) (h1 : a ≤ b) (hm : b ≤ xs.length) (hc : xs.length ≤ c) :
    ∃ A' : Option Addr, (∀ W : World, (Instr.slice t (.slice A xs.length c) (some (.int kl a)) (some (.int kh b)) (some (.int km b))).run P W = .ok (.slice A' ((xs.take b.toNat).drop a.toNat).length (b.toNat - a.toNat)) W) ∧
      (∀ w : World, ReadsOf enc d w A xs.length xs → ReadsOf enc d w A' ((xs.take b.toNat).drop a.toNat).length ((xs.take b.toNat).drop a.toNat)) ∧ ((xs.take b.toNat).drop a.toNat).length ≤ b.toNat - a.toNat := by
  have hlt : (xs.take b.toNat).length = b.toNat := by rw [List.length_take]; omega
  have hl : ((xs.take b.toNat).drop a.toNat).length = b.toNat - a.toNat := by rw [List.length_drop, hlt]
  refine ⟨if b.toNat = a.toNat then A else A.map (·.add a.toNat), fun W => ?_, fun w h => ?_, by rw [hl]; omega⟩
  · have hel : P.elem t = e := by simp [Program.elem, ht]
    have hu : P.underlying t = some (.slice (P.elem t)) := by rw [hel]; exact ht
    have eb : (b.toNat : Int) = b := Int.toNat_of_nonneg (by omega)
    have ea : (a.toNat : Int) = a := Int.toNat_of_nonneg (by omega)
    rw [hl]
    simp [Instr.slice, run_underlying ht, Instr.sliceBounds, run_sliceBound, *, (by omega : b ≤ (c : Int)), (by omega : 0 ≤ b), sizeOf, typeInfo, hi, hsz, Result.andThen]
  · have h2 := (h.take_ b.toNat (by omega)).drop_ (c := b.toNat) a.toNat (by omega) (by omega)
    rw [hl]
    exact h2
end
theorem kd_none_nil {w : World} {n : Nat} {l : List Int} (h : Kd.C (Kd.int .u8) w none n l) : l = [] := by
  have h1 := Kd.reads_of_C (d := (0 : Int)) h
  rcases Nat.eq_zero_or_pos n with h0 | h0
  · exact List.eq_nil_of_length_eq_zero (by have := h1.1; omega)
  · obtain ⟨ad, e, _⟩ := h1.2.2 h0
    cases e
/-- '[]byte{}' -/
theorem kd_empty_new (w : World) (k : IntKind) (e : TypeId) : Kd.R (Kd.int k) e (w.alloc (.cells #[] e)) w.heap.size (fun _ => True) (.slice (some ⟨w.heap.size, 0, none⟩) 0 0) ([] : List Int) :=
  Kd.R_of_own (h1 := fun _ => rfl) ⟨rfl, .inr ⟨w.heap.size, 0, #[], rfl, Nat.le_refl _, by simpa using heap_alloc_new w _, Nat.le_refl _, by simp [maxLen], rfl, rfl⟩⟩ (fun _ _ => trivial)
end Go.Proofs.YtgeggcifhojpmaaW.PrintWords
