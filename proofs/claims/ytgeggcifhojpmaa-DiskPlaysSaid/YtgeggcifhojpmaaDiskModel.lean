import Derived.Test.YtgeggcifhojpmaaDiskSpoil
import Derived.Laws.CopyRow
import Derived.Laws.MakeOwn
import Derived.Laws.CopyOwn
namespace Go.Proofs.Ytgeggcifhojpmaa.PA
open Go.RowKit Go.Proofs.YtgeggcifhojpmaaW.PrintWords Go.Proofs.YtgeggcifhojpmaaW.PrintLast Go.Proofs.YtgeggcifhojpmaaW.PrintMore
attribute [local go_sem] max2_int min2_int max_two min_two max_three min_three max_four min_four   -- for this text's walks alone
set_option linter.unusedVariables false
set_option linter.unusedSimpArgs false

def mEnc (s : Nat) (p : Nat × Nat) : Value := .slice (some ⟨p.1, 0, none⟩) s p.2
/-- The law's own model at block gm: its row of rows at qm, its rows (block, room) ms, what is in them bs. -/
structure MK (W : World) (base gm qm cap s : Nat) (ms : List (Nat × Nat)) (bs : List (List Int)) (n pre : Int) (dead armed : Bool) : Prop where
  top : W.heap[gm]? = some (.cells #[.slice (some ⟨qm, 0, none⟩) ms.length cap, .int .i64 s, .bool dead, .bool armed, .int .i64 n, .int .i64 pre] 41 (0, 0))
  row : ∃ A, W.heap[qm]? = some (.cells A 27 (0, 0)) ∧ A.toList.take ms.length = ms.map (mEnc s)
  len : bs.length = ms.length
  nodup : (ms.map Prod.fst).Nodup
  each : ∀ (i : Nat) (p : Nat × Nat) (l : List Int), ms[i]? = some p → bs[i]? = some l → l.length = s ∧ s ≤ p.2 ∧ ∃ cur, W.heap[p.1]? = some (.cells cur 5 (0, 0)) ∧ cur.toList.take s = l.map (Value.int .u8)
  own : base ≤ gm ∧ base ≤ qm ∧ ∀ p ∈ ms, base ≤ p.1
section
variable {w : World} {base gm qm cap s : Nat} {ms : List (Nat × Nat)} {bs : List (List Int)} {n pre : Int} {dead armed : Bool}
theorem MK.at (hd : MK w base gm qm cap s ms bs n pre dead armed) {k : Nat} (hk : k < ms.length) : ∃ p l cur, ms[k]? = some p ∧ bs[k]? = some l ∧ l.length = s ∧ s ≤ p.2 ∧ w.heap[p.1]? = some (.cells cur 5 (0, 0)) ∧ cur.toList.take s = l.map (Value.int .u8) := by
  have h1 : ms[k]? = some ms[k] := List.getElem?_eq_getElem hk
  have h2 : bs[k]? = some (bs[k]'(by rw [hd.len]; exact hk)) := List.getElem?_eq_getElem _
  obtain ⟨h3, h4, cur, h5, h6⟩ := hd.each k _ _ h1 h2
  exact ⟨_, _, cur, h1, h2, h3, h4, h5, h6⟩
theorem MK.mem (hd : MK w base gm qm cap s ms bs n pre dead armed) {p : Nat × Nat} (hp : p ∈ ms) : ∃ cur, w.heap[p.1]? = some (.cells cur 5 (0, 0)) := by
  obtain ⟨i, hi, he⟩ := List.mem_iff_getElem.1 hp
  obtain ⟨_, _, cur, h5, _⟩ := hd.each i p (bs[i]'(by rw [hd.len]; exact hi)) (by rw [List.getElem?_eq_getElem hi, he]) (List.getElem?_eq_getElem _)
  exact ⟨cur, h5⟩
theorem MK.lt (hd : MK w base gm qm cap s ms bs n pre dead armed) : gm < w.heap.size ∧ qm < w.heap.size ∧ ∀ p ∈ ms, p.1 < w.heap.size := by
  obtain ⟨A, hA, _⟩ := hd.row
  exact ⟨blk_lt hd.top, blk_lt hA, fun p hp => by obtain ⟨cur, h⟩ := hd.mem hp; exact blk_lt h⟩
theorem MK.ne (hd : MK w base gm qm cap s ms bs n pre dead armed) : gm ≠ qm ∧ ∀ p ∈ ms, p.1 ≠ gm ∧ p.1 ≠ qm := by
  obtain ⟨A, hA, _⟩ := hd.row
  exact ⟨blk_ne hd.top hA (by decide), fun p hp => by obtain ⟨cur, h⟩ := hd.mem hp; exact ⟨blk_ne h hd.top (by decide), blk_ne h hA (by decide)⟩⟩
theorem MK.kept {S : Nat → Prop} {w' : World} (hd : MK w base gm qm cap s ms bs n pre dead armed) (hf : DF S w w') (h1 : ¬ S gm) (h2 : ¬ S qm) (h3 : ∀ p ∈ ms, ¬ S p.1) : MK w' base gm qm cap s ms bs n pre dead armed := by
  have hl := hd.lt
  obtain ⟨A, hA, hA2⟩ := hd.row
  refine ⟨(hf.block gm hl.1 h1).trans hd.top, ⟨A, (hf.block qm hl.2.1 h2).trans hA, hA2⟩, hd.len, hd.nodup, fun i p l hi hq => ?_, hd.own⟩
  have hm := List.mem_of_getElem? hi
  obtain ⟨a1, a2, cur, a3, a4⟩ := hd.each i p l hi hq
  exact ⟨a1, a2, cur, (hf.block p.1 (hl.2.2 p hm) (h3 p hm)).trans a3, a4⟩
theorem MK.drewN (hd : MK w base gm qm cap s ms bs n pre dead armed) (k : Nat) : MK (w.drewN k) base gm qm cap s ms bs n pre dead armed := hd.kept (S := fun _ => False) ⟨rfl, rfl, rfl, Nat.le_refl _, fun _ _ _ => rfl⟩ id id (fun _ _ => id)
theorem MK.below {w' : World} (hd : MK w base gm qm cap s ms bs n pre dead armed) (hb : Below w.heap.size w w') : MK w' base gm qm cap s ms bs n pre dead armed := hd.kept (S := fun _ => False) (DF.of_below hb) id id (fun _ _ => id)
theorem MK.top_ {j : Nat} {u : Value} {n' pre' : Int} {dead' armed' : Bool} (hd : MK w base gm qm cap s ms bs n pre dead armed) (h : (#[.slice (some ⟨qm, 0, none⟩) ms.length cap, .int .i64 s, .bool dead, .bool armed, .int .i64 n, .int .i64 pre] : Array Value).setIfInBounds j u = #[.slice (some ⟨qm, 0, none⟩) ms.length cap, .int .i64 s, .bool dead', .bool armed', .int .i64 n', .int .i64 pre']) : MK (w.setCell ⟨gm, j, none⟩ u) base gm qm cap s ms bs n' pre' dead' armed' := by
  have hl := hd.lt
  have hne := hd.ne
  obtain ⟨A, hA, hA2⟩ := hd.row
  refine ⟨blk_put hd.top j u h, ⟨A, blk_far hA (p := ⟨gm, j, none⟩) (fun e => hne.1 e.symm) u, hA2⟩, hd.len, hd.nodup, fun i p l hi hq => ?_, hd.own⟩
  have hm := List.mem_of_getElem? hi
  obtain ⟨a1, a2, cur, a3, a4⟩ := hd.each i p l hi hq
  exact ⟨a1, a2, cur, blk_far a3 (p := ⟨gm, j, none⟩) (hne.2 p hm).1 u, a4⟩
theorem MK.set2 (hd : MK w base gm qm cap s ms bs n pre dead armed) (x : Bool) : MK (w.setCell ⟨gm, 2, none⟩ (.bool x)) base gm qm cap s ms bs n pre x armed := hd.top_ rfl
theorem MK.set3 (hd : MK w base gm qm cap s ms bs n pre dead armed) (x : Bool) : MK (w.setCell ⟨gm, 3, none⟩ (.bool x)) base gm qm cap s ms bs n pre dead x := hd.top_ rfl
theorem MK.set4 (hd : MK w base gm qm cap s ms bs n pre dead armed) (x : Int) : MK (w.setCell ⟨gm, 4, none⟩ (.int .i64 x)) base gm qm cap s ms bs x pre dead armed := hd.top_ rfl
theorem MK.set5 (hd : MK w base gm qm cap s ms bs n pre dead armed) (x : Int) : MK (w.setCell ⟨gm, 5, none⟩ (.int .i64 x)) base gm qm cap s ms bs n x dead armed := hd.top_ rfl
theorem MK.rowAt (hd : MK w base gm qm cap s ms bs n pre dead armed) {k : Nat} {p : Nat × Nat} (hk : ms[k]? = some p) : w.cell? ⟨qm, k, none⟩ = some (.slice (some ⟨p.1, 0, none⟩) s p.2) ∧ w.frozen? ⟨qm, k, none⟩ = false := by
  obtain ⟨A, hA, hA2⟩ := hd.row
  refine ⟨(blk_cell hA k).trans ?_, blk_frozen hA k⟩
  have hkn : k < ms.length := by
    rcases Nat.lt_or_ge k ms.length with h1 | h1
    · exact h1
    · rw [List.getElem?_eq_none h1] at hk; cases hk
  have h1 : (A.toList.take ms.length)[k]? = some (mEnc s p) := by rw [hA2, List.getElem?_map, hk]; rfl
  rw [List.getElem?_take_of_lt hkn] at h1
  simpa [mEnc] using h1
/-- Another row in a row's place. -/
theorem MK.rowB {k B c : Nat} {p : Nat × Nat} {l' : List Int} {cur : Array Value} (hd : MK w base gm qm cap s ms bs n pre dead armed) (hk : ms[k]? = some p) (hb : base ≤ B) (hnew : ∀ x ∈ ms, x.1 ≠ B) (hl : l'.length = s) (hc : s ≤ c) (hcur : w.heap[B]? = some (.cells cur 5 (0, 0))) (htake : cur.toList.take s = l'.map (Value.int .u8)) : MK (w.setCell ⟨qm, k, none⟩ (.slice (some ⟨B, 0, none⟩) s c)) base gm qm cap s (ms.set k (B, c)) (bs.set k l') n pre dead armed := by
  have hne := hd.ne
  have hkn : k < ms.length := by
    rcases Nat.lt_or_ge k ms.length with h1 | h1
    · exact h1
    · rw [List.getElem?_eq_none h1] at hk; cases hk
  obtain ⟨A, hA, hA2⟩ := hd.row
  have hBq : B ≠ qm := blk_ne hcur hA (by decide)
  refine ⟨by rw [List.length_set]; exact blk_far hd.top (p := ⟨qm, k, none⟩) hne.1 _, ⟨_, blk_put hA k _ rfl, ?_⟩, by rw [List.length_set, List.length_set]; exact hd.len, ?_, fun i x y hx hy => ?_, hd.own.1, hd.own.2.1, fun x hx => ?_⟩
  · rw [List.length_set, Array.toList_setIfInBounds, List.take_set, hA2, List.map_set]
    rfl
  · rw [List.map_set]
    have hnd := hd.nodup
    rw [List.Nodup, List.pairwise_iff_getElem] at hnd ⊢
    intro i j hi hj hij
    rw [List.length_set] at hi hj
    have key : ∀ (m : Nat) (hm : m < (ms.map Prod.fst).length), (ms.map Prod.fst)[m] ≠ B := fun m hm => by
      rw [List.getElem_map]
      exact hnew _ (List.getElem_mem _)
    rw [List.getElem_set, List.getElem_set]
    split
    · split
      · omega
      · exact fun e => key j hj e.symm
    · split
      · exact key i hi
      · exact hnd i j hi hj hij
  · by_cases e : i = k
    · subst e
      rw [List.getElem?_set_self hkn] at hx
      rw [List.getElem?_set_self (by rw [hd.len]; exact hkn)] at hy
      obtain rfl := Option.some.inj hx
      obtain rfl := Option.some.inj hy
      exact ⟨hl, hc, cur, blk_far hcur (p := ⟨qm, i, none⟩) hBq _, htake⟩
    · rw [List.getElem?_set_ne (fun h => e h.symm)] at hx hy
      obtain ⟨a1, a2, cur2, a3, a4⟩ := hd.each i x y hx hy
      exact ⟨a1, a2, cur2, blk_far a3 (p := ⟨qm, k, none⟩) (hne.2 x (List.mem_of_getElem? hx)).2 _, a4⟩
  · rcases List.mem_or_eq_of_mem_set hx with h | h
    · exact hd.own.2.2 x h
    · rw [h]; exact hb
/-- A row's bytes put anew. -/
theorem MK.rowL {k : Nat} {p : Nat × Nat} {l' : List Int} {cur' : Array Value} (hd : MK w base gm qm cap s ms bs n pre dead armed) (hk : ms[k]? = some p) (hl : l'.length = s) (htake : cur'.toList.take s = l'.map (Value.int .u8)) : MK (w.setRow p.1 cur') base gm qm cap s ms (bs.set k l') n pre dead armed := by
  have hne := hd.ne
  have hm := List.mem_of_getElem? hk
  have hkn : k < ms.length := by
    rcases Nat.lt_or_ge k ms.length with h1 | h1
    · exact h1
    · rw [List.getElem?_eq_none h1] at hk; cases hk
  obtain ⟨A, hA, hA2⟩ := hd.row
  obtain ⟨old, hold⟩ := hd.mem hm
  refine ⟨(setRow_other w p.1 gm _ (fun e => (hne.2 p hm).1 e.symm)).trans hd.top, ⟨A, (setRow_other w p.1 qm _ (fun e => (hne.2 p hm).2 e.symm)).trans hA, hA2⟩, by rw [List.length_set]; exact hd.len, hd.nodup, fun i x y hx hy => ?_, hd.own⟩
  by_cases e : i = k
  · subst e
    obtain rfl : p = x := Option.some.inj (hk.symm.trans hx)
    rw [List.getElem?_set_self (by rw [hd.len]; exact hkn)] at hy
    obtain rfl := Option.some.inj hy
    obtain ⟨_, a2, _⟩ := hd.each i p (bs[i]'(by rw [hd.len]; exact hkn)) hk (List.getElem?_eq_getElem _)
    exact ⟨hl, a2, cur', setRow_heap w p.1 _ _ 5 (0, 0) hold, htake⟩
  · rw [List.getElem?_set_ne (fun h => e h.symm)] at hy
    obtain ⟨a1, a2, cur2, a3, a4⟩ := hd.each i x y hx hy
    refine ⟨a1, a2, cur2, (setRow_other w p.1 x.1 _ (fun h => e ?_)).trans a3, a4⟩
    have hin : i < ms.length := by
      rcases Nat.lt_or_ge i ms.length with h1 | h1
      · exact h1
      · rw [List.getElem?_eq_none h1] at hx; cases hx
    have h4 : (ms.map Prod.fst)[i]'(by rw [List.length_map]; exact hin) = (ms.map Prod.fst)[k]'(by rw [List.length_map]; exact hkn) := by
      rw [List.getElem?_eq_getElem hin] at hx
      rw [List.getElem?_eq_getElem hkn] at hk
      rw [List.getElem_map, List.getElem_map, Option.some.inj hx, Option.some.inj hk, h]
    exact (List.getElem_inj hd.nodup).1 h4
end
end Go.Proofs.Ytgeggcifhojpmaa.PA
