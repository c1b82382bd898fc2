/- A struct of two arrays of six bytes, a number, a slice, by value. -/
import Derived.Test.YtnfgmcjgmccggaaAggWords
import Derived.OpenShut
namespace Go.Proofs.YtnfgmcjgmccggaaW.AggWords
open Go.Joins Go.ChangeShapes Go.WideShapes Go.RowKit Go.Deep
set_option linter.unusedVariables false
set_option linter.unusedSimpArgs false
section
variable {H : Type} {enc : TypeId × Value → H} {P : Program} {w : World} {base : Nat} {spare : Nat → Bool} {held : Bool}
theorem open_six {t e : TypeId} {fuel : Nat} {c0 c1 c2 c3 c4 c5 : Value} {x : DataW H × List MemPlace} (ht : P.underlying t = some (.array 6 e)) (he : P.underlying e = some (.int .u8)) (hc : P.cellsOf e = 1)
    (h : DataW.trod enc P w base spare held fuel t [c0, c1, c2, c3, c4, c5] = some x) :
    ∃ a0 a1 a2 a3 a4 a5 : Int, c0 = .int .u8 a0 ∧ c1 = .int .u8 a1 ∧ c2 = .int .u8 a2 ∧ c3 = .int .u8 a3 ∧ c4 = .int .u8 a4 ∧ c5 = .int .u8 a5 ∧ (Lit.int .u8 a0).wf = true ∧ (Lit.int .u8 a1).wf = true ∧ (Lit.int .u8 a2).wf = true ∧ (Lit.int .u8 a3).wf = true ∧ (Lit.int .u8 a4).wf = true ∧ (Lit.int .u8 a5).wf = true := by
  obtain ⟨ys, m, _, _, _, hl, hf⟩ := Go.DataW.trod_array ht h
  have one : ∀ (i : Nat) (c : Value), i < 6 → ([c0, c1, c2, c3, c4, c5].drop (i * P.cellsOf e)).take (P.cellsOf e) = [c] → ∃ a : Int, c = .int .u8 a ∧ (Lit.int .u8 a).wf = true := by
    intro i c hi hq
    have hy := hf i (by omega)
    rw [hq] at hy
    obtain ⟨y, hy2⟩ : ∃ y, ys[i]? = some y := ⟨_, List.getElem?_eq_getElem (by omega)⟩
    rw [hy2] at hy
    obtain ⟨a, e1, _, wf⟩ := DataW.trod_int he hy
    exact ⟨a, List.head_eq_of_cons_eq e1, wf⟩
  obtain ⟨a0, e0, w0⟩ := one 0 c0 (by omega) (by rw [hc]; rfl)
  obtain ⟨a1, e1, w1⟩ := one 1 c1 (by omega) (by rw [hc]; rfl)
  obtain ⟨a2, e2, w2⟩ := one 2 c2 (by omega) (by rw [hc]; rfl)
  obtain ⟨a3, e3, w3⟩ := one 3 c3 (by omega) (by rw [hc]; rfl)
  obtain ⟨a4, e4, w4⟩ := one 4 c4 (by omega) (by rw [hc]; rfl)
  obtain ⟨a5, e5, w5⟩ := one 5 c5 (by omega) (by rw [hc]; rfl)
  exact ⟨a0, a1, a2, a3, a4, a5, e0, e1, e2, e3, e4, e5, w0, w1, w2, w3, w4, w5⟩
theorem open_eth {r : Reach} {b0 : Nat} {t e : TypeId} {f0 f1 f2 f3 : Field} {v : Value} {d : DataW H} {p : List MemPlace} (hs : P.underlying t = some (.struct #[f0, f1, f2, f3])) (ho : (f0.offset, f1.offset, f2.offset, f3.offset) = (0, 6, 12, 13)) (hk : (P.cellsOf f0.type, P.cellsOf f1.type, P.cellsOf f2.type, P.cellsOf f3.type) = (6, 6, 1, 1)) (hC : P.cellsOf t = 14)
    (h0 : P.underlying f0.type = some (.array 6 e)) (h1 : P.underlying f1.type = some (.array 6 e)) (he : P.underlying e = some (.int .u8)) (hc : P.cellsOf e = 1) (h2 : P.underlying f2.type = some (.int .u16))
    (hv : Value.okWide P w r b0 t v) (h : DataW.Trod enc P w base spare held t v d p) :
    ∃ (a0 a1 a2 a3 a4 a5 a6 a7 a8 a9 a10 a11 a12 : Int) (c : Value) (y : DataW H × List MemPlace) (n : Nat), v = .agg #[.int .u8 a0, .int .u8 a1, .int .u8 a2, .int .u8 a3, .int .u8 a4, .int .u8 a5, .int .u8 a6, .int .u8 a7, .int .u8 a8, .int .u8 a9, .int .u8 a10, .int .u8 a11, .int .u16 a12, c] ∧
      ((Lit.int .u8 a0).wf = true ∧ (Lit.int .u8 a1).wf = true ∧ (Lit.int .u8 a2).wf = true ∧ (Lit.int .u8 a3).wf = true ∧ (Lit.int .u8 a4).wf = true ∧ (Lit.int .u8 a5).wf = true) ∧ ((Lit.int .u8 a6).wf = true ∧ (Lit.int .u8 a7).wf = true ∧ (Lit.int .u8 a8).wf = true ∧ (Lit.int .u8 a9).wf = true ∧ (Lit.int .u8 a10).wf = true ∧ (Lit.int .u8 a11).wf = true) ∧ (Lit.int .u16 a12).wf = true ∧
      DataW.trod enc P w base spare held n f3.type [c] = some y := by
  simp only [Prod.mk.injEq] at ho hk
  obtain ⟨o0, o1, o2, o3⟩ := ho
  obtain ⟨k0, k1, k2, k3⟩ := hk
  obtain ⟨cs, rfl, hsz⟩ := okWide_struct hs hv
  obtain ⟨l⟩ := cs
  match l, hsz.trans hC with
  | [c0, c1, c2, c3, c4, c5, c6, c7, c8, c9, c10, c11, c12, c13], _ =>
    obtain ⟨fuel, hf⟩ := h
    obtain ⟨xs, n, _, hx, _, hlen, hg⟩ := DataW.trod_struct hs hf
    match xs, hlen with
    | [y0, y1, y2, y3], _ =>
      have g0 := hg 0 f0 rfl
      have g1 := hg 1 f1 rfl
      have g2 := hg 2 f2 rfl
      have g3 := hg 3 f3 rfl
      rw [o0, k0] at g0
      rw [o1, k1] at g1
      rw [o2, k2] at g2
      rw [o3, k3] at g3
      obtain ⟨a0, a1, a2, a3, a4, a5, rfl, rfl, rfl, rfl, rfl, rfl, w0⟩ := open_six (x := y0) h0 he hc g0
      obtain ⟨a6, a7, a8, a9, a10, a11, rfl, rfl, rfl, rfl, rfl, rfl, w1⟩ := open_six (x := y1) h1 he hc g1
      obtain ⟨a12, e12, _, w2⟩ := DataW.trod_int (x := y2) h2 g2
      obtain rfl := List.head_eq_of_cons_eq e12
      exact ⟨a0, a1, a2, a3, a4, a5, a6, a7, a8, a9, a10, a11, a12, c13, y3, n, rfl, w0, w1, w2, g3⟩
end
end Go.Proofs.YtnfgmcjgmccggaaW.AggWords
