import Derived.Test.YtgeggcifhojpmaaDiskPl
import Derived.Test.YtgeggcifhojpmaaAggWords
import Derived.Laws.CopyRow
import Derived.Laws.MakeOwn
import Derived.Deep.Slices
import Derived.Lib.SmallJoins
import Derived.ProofKit
import Derived.OpenShut
namespace Go.Proofs.Ytgeggcifhojpmaa.PA
open Go.Deep Go.Joins Go.ChangeShapes Go.WideShapes Go.RowKit Go.Proofs.YtgeggcifhojpmaaW.PrintWords Go.Proofs.YtgeggcifhojpmaaW.PrintLast Go.Proofs.YtgeggcifhojpmaaW.PrintMore
attribute [local go_sem] max2_int min2_int max_two min_two max_three min_three max_four min_four   -- for this text's walks alone
set_option linter.unusedVariables false
set_option linter.unusedSimpArgs false

instance : Inhabited DAct := ⟨⟨0, 0, 0, 0, 0⟩⟩
/-- The acts out of their reading. -/
theorem acts_of {H : Type} {enc : TypeId × Value → H} {W : World} {fuel : Nat} {a : Option Addr} {len cap : Nat} {x : DataW H × List MemPlace} (hf : DataW.trod enc Try.prog W 0 (fun _ => true) true fuel 37 [.slice a len cap] = some x) : ∃ l : List DAct, l.length = len ∧ AC W a l := by
  have hC : Try.prog.cellsOf 43 = 5 := by kernel_rfl
  have hC3 : Try.prog.cellsOf 3 = 1 := by kernel_rfl
  have hC5 : Try.prog.cellsOf 5 = 1 := by kernel_rfl
  rcases open_slice Try.underlying37 hf with ⟨h, _⟩ | ⟨ad, l_, c_, m, n, D, Pl, hcs, hb, hl, hm, hmm, _, hx⟩
  · simp only [List.cons.injEq, Value.slice.injEq, and_true] at h
    obtain ⟨rfl, rfl, rfl⟩ := h
    exact ⟨[], rfl, fun h0 => absurd h0 (by simp)⟩
  · simp only [List.cons.injEq, Value.slice.injEq, and_true] at hcs
    obtain ⟨rfl, rfl, rfl⟩ := hcs
    rw [if_pos rfl] at hmm
    subst hmm
    have one : ∀ i, i < len → ∃ d : DAct, W.cell? ((ad.add (i * 5)).add 0) = some (.int .i64 d.what) ∧ W.cell? ((ad.add (i * 5)).add 1) = some (.int .i64 d.i) ∧ W.cell? ((ad.add (i * 5)).add 2) = some (.int .i64 d.n) ∧ W.cell? ((ad.add (i * 5)).add 3) = some (.int .i64 d.p) ∧ W.cell? ((ad.add (i * 5)).add 4) = some (.int .u8 d.x) := by
      intro i hi
      obtain ⟨cs', h1, h2⟩ := hx i (by omega)
      obtain ⟨_, hlen, hcell⟩ := World.cells?_some h1
      rw [hC] at hlen hcell
      match cs', hlen with
      | [e0, e1, e2, e3, e4], _ =>
        obtain ⟨xs, n', _, _, _, hxl, hg⟩ := DataW.trod_struct Try.underlying43 h2
        match xs, hxl with
        | [y0, y1, y2, y3, y4], _ =>
          have g0 : DataW.trod enc Try.prog W 0 (fun _ => true) true n' 3 (([e0, e1, e2, e3, e4].drop 0).take (Try.prog.cellsOf 3)) = some y0 := hg 0 _ rfl
          have g1 : DataW.trod enc Try.prog W 0 (fun _ => true) true n' 3 (([e0, e1, e2, e3, e4].drop 1).take (Try.prog.cellsOf 3)) = some y1 := hg 1 _ rfl
          have g2 : DataW.trod enc Try.prog W 0 (fun _ => true) true n' 3 (([e0, e1, e2, e3, e4].drop 2).take (Try.prog.cellsOf 3)) = some y2 := hg 2 _ rfl
          have g3 : DataW.trod enc Try.prog W 0 (fun _ => true) true n' 3 (([e0, e1, e2, e3, e4].drop 3).take (Try.prog.cellsOf 3)) = some y3 := hg 3 _ rfl
          have g4 : DataW.trod enc Try.prog W 0 (fun _ => true) true n' 5 (([e0, e1, e2, e3, e4].drop 4).take (Try.prog.cellsOf 5)) = some y4 := hg 4 _ rfl
          rw [hC3] at g0 g1 g2 g3
          rw [hC5] at g4
          obtain ⟨b0, q0, _, _⟩ := DataW.trod_int (x := y0) Try.underlying3 g0
          obtain ⟨b1, q1, _, _⟩ := DataW.trod_int (x := y1) Try.underlying3 g1
          obtain ⟨b2, q2, _, _⟩ := DataW.trod_int (x := y2) Try.underlying3 g2
          obtain ⟨b3, q3, _, _⟩ := DataW.trod_int (x := y3) Try.underlying3 g3
          obtain ⟨b4, q4, _, _⟩ := DataW.trod_int (x := y4) Try.underlying5 g4
          obtain rfl := List.head_eq_of_cons_eq q0
          obtain rfl := List.head_eq_of_cons_eq q1
          obtain rfl := List.head_eq_of_cons_eq q2
          obtain rfl := List.head_eq_of_cons_eq q3
          obtain rfl := List.head_eq_of_cons_eq q4
          exact ⟨⟨b0, b1, b2, b3, b4⟩, hcell 0 (by omega), hcell 1 (by omega), hcell 2 (by omega), hcell 3 (by omega), hcell 4 (by omega)⟩
    obtain ⟨f, hfx⟩ := choose_lt one
    refine ⟨(List.range len).map f, by rw [List.length_map, List.length_range], fun _ => ⟨ad, rfl, fun j d hj => ?_⟩⟩
    rw [List.getElem?_map] at hj
    by_cases hlt : j < len
    · rw [List.getElem?_range hlt] at hj
      obtain rfl := Option.some.inj hj
      exact hfx j hlt
    · rw [List.getElem?_eq_none (by rw [List.length_range]; omega)] at hj
      cases hj
end Go.Proofs.Ytgeggcifhojpmaa.PA
