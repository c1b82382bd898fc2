/- What the printed functions of the checksum come to: the plain words, sums and folds. -/
import Derived.Test.YtmlmiiejifhfeaaPAx1
import Derived.Test.YtmlmiiejifhfeaaPAx3
import Derived.Test.YtmlmiiejifhfeaaPAx9
import Derived.Test.YtmlmiiejifhfeaaPAx11
import Derived.Test.YtmlmiiejifhfeaaSpec
namespace Go.Proofs.Ytmlmiiejifhfeaa.SumEq
set_option linter.unusedVariables false
set_option linter.unusedSimpArgs false
open Go.RowKit Go.Proofs.Ytmlmiiejifhfeaa.PA Go.Proofs.YtmlmiiejifhfeaaW.PrintWords Go.Proofs.YtmlmiiejifhfeaaW.PrintLast Go.Proofs.Ytmlmiiejifhfeaa.Spec

theorem rd_at (l : List Int) (i : Int) (j : Nat) (h : i = (j : Int)) : rd l i = l.getD j 0 := by subst h; simp [rd]
theorem wf_u8 {x : Int} (h : (Lit.int .u8 x).wf = true) : 0 ≤ x ∧ x ≤ 255 := by
  simp [Lit.wf, IntKind.min, IntKind.max, IntKind.bits, IntKind.signed] at h; omega
theorem wf_u16 {x : Int} (h : (Lit.int .u16 x).wf = true) : 0 ≤ x ∧ x ≤ 65535 := by
  simp [Lit.wf, IntKind.min, IntKind.max, IntKind.bits, IntKind.signed] at h; omega
theorem wf_u32 {x : Int} (h : (Lit.int .u32 x).wf = true) : 0 ≤ x ∧ x ≤ 4294967295 := by
  simp [Lit.wf, IntKind.min, IntKind.max, IntKind.bits, IntKind.signed] at h; omega
theorem wf_i64 {x : Int} (h : (Lit.int .i64 x).wf = true) : -9223372036854775808 ≤ x ∧ x ≤ 9223372036854775807 := by
  simp [Lit.wf, IntKind.min, IntKind.max, IntKind.bits, IntKind.signed] at h; omega
theorem isB_of {l : List Int} (h : ∀ x ∈ l, (Lit.int .u8 x).wf = true) : IsB l := fun x hx => wf_u8 (h x hx)

theorem take_words (l : List Int) (j : Nat) (h : 2 * j < l.length) : (words l).take (j + 1) = (words l).take j ++ [l.getD (2 * j) 0 * 256 + l.getD (2 * j + 1) 0] := by
  have hl := words_length l
  have hg := words_get l j h
  have hj : j < (words l).length := by omega
  rw [List.getElem?_eq_getElem hj] at hg
  injection hg with hg
  rw [List.take_succ_eq_append_getElem hj, hg]

theorem words_l0 (l : List Int) (hb : IsB l) (hl : l.length ≤ 1000000000) (d : Nat) : ∀ (k j : Nat), j + d = (l.length + 1) / 2 → d < k →
    sum_Words.l0 k l ((words l).take j) (((l.length + 1) / 2 : Nat) : Int) (j : Int) = some (words l) := by
  induction d with
  | zero =>
    intro k j hj hk
    obtain ⟨k, rfl⟩ : ∃ m, k = m + 1 := ⟨k - 1, by omega⟩
    simp only [sum_Words.l0]
    rw [if_neg (by omega), List.take_of_length_le (by rw [words_length]; omega)]
  | succ d ih =>
    intro k j hj hk
    obtain ⟨k, rfl⟩ : ∃ m, k = m + 1 := ⟨k - 1, by omega⟩
    have e2 : wrap64 (2 * (j : Int)) = ((2 * j : Nat) : Int) := by rw [wrap64_id (by omega) (by omega)]; omega
    have e3 : wrap64 (((2 * j : Nat) : Int) + 1) = ((2 * j + 1 : Nat) : Int) := by rw [wrap64_id (by omega) (by omega)]; omega
    have e1 : wrap64 ((j : Int) + 1) = ((j + 1 : Nat) : Int) := by rw [wrap64_id (by omega) (by omega)]; omega
    have h1 := hb.getD (2 * j)
    have h2 := hb.getD (2 * j + 1)
    have hlen : ((words l).take j).length < 70368744177664 := by rw [List.length_take, words_length]; omega
    have ht := take_words l j (by omega)
    have hi := ih k (j + 1) (by omega) (by omega)
    simp only [sum_Words.l0, e2, e3, e1]
    rw [if_pos (by omega), if_pos (by omega), if_pos (by omega), rd_at l _ (2 * j) rfl, rd_at l _ (2 * j + 1) rfl]
    rw [u16w (by omega) (by omega : l.getD (2 * j) 0 ≤ 65535), u16w (by omega) (by omega : l.getD (2 * j) 0 * 256 ≤ 65535), u16w (by omega) (by omega : l.getD (2 * j + 1) 0 ≤ 65535), join16 h1 h2]
    by_cases hc : 2 * j + 1 < l.length
    · rw [if_pos (by omega), if_pos (by omega), if_pos hlen, ← ht]
      exact hi
    · have h0 : l.getD (2 * j + 1) 0 = 0 := by rw [List.getD_eq_getElem?_getD, List.getElem?_eq_none (by omega)]; rfl
      rw [if_neg (by omega), if_pos hlen]
      rw [h0, Int.add_zero] at ht
      rw [← ht]
      exact hi
theorem words_eq (l : List Int) (hb : IsB l) (hl : l.length ≤ 1000000000) (k : Nat) (hk : l.length + 1 < k) : sum_Words.f k l = some (words l) := by
  have h := words_l0 l hb hl ((l.length + 1) / 2) k 0 (by omega) (by omega)
  unfold sum_Words.f
  have e : wrap64 (Int.tdiv (wrap64 ((l.length : Int) + 1)) 2) = (((l.length + 1) / 2 : Nat) : Int) := by
    rw [wrap64_id (n := (l.length : Int) + 1) (by omega) (by omega), Int.tdiv_eq_ediv_of_nonneg (by omega), wrap64_id (by omega) (by omega)]; omega
  rw [e]
  simpa using h

theorem Add32_eq {a b : Int} (ha : 0 ≤ a ∧ a ≤ 4294967295) (hb : 0 ≤ b ∧ b ≤ 65535) : bits_Add32.f a b 0 = some ((a + b) % 4294967296, (a + b) / 4294967296) := by
  unfold bits_Add32.f
  rw [u64w ha.1 (by omega), u64w hb.1 (by omega), u64w (n := a + b) (by omega) (by omega), u64w (n := (0 : Int)) (by omega) (by omega), u64w (n := a + b + 0) (by omega) (by omega)]
  rw [Int.add_zero, show ((a + b) / 4294967296) % 4294967296 = (a + b) / 4294967296 from by omega]
theorem add_l0 (ws : List Int) (hw : IsW ws) (hl : ws.length ≤ 1000000000) (d : Nat) : ∀ (k j : Nat) (s : Int), j + d = ws.length → d < k → 0 ≤ s → s ≤ 4294967295 →
    sum_Add.l0 k s ws (ws.length : Int) (j : Int) = some (addw s (ws.drop j)) := by
  induction d with
  | zero =>
    intro k j s hj hk h0 h1
    obtain ⟨k, rfl⟩ : ∃ m, k = m + 1 := ⟨k - 1, by omega⟩
    simp only [sum_Add.l0]
    rw [if_neg (by omega), List.drop_of_length_le (by omega)]
    rfl
  | succ d ih =>
    intro k j s hj hk h0 h1
    obtain ⟨k, rfl⟩ : ∃ m, k = m + 1 := ⟨k - 1, by omega⟩
    have hjl : j < ws.length := by omega
    have hx := hw _ (List.getElem_mem hjl)
    have e1 : wrap64 ((j : Int) + 1) = ((j + 1 : Nat) : Int) := by rw [wrap64_id (by omega) (by omega)]; omega
    have er : rd ws (j : Int) = ws[j] := by rw [rd_at ws _ j rfl, List.getD_eq_getElem?_getD, List.getElem?_eq_getElem hjl]; rfl
    have ho := oadd_range h0 h1 hx
    have hi := ih k (j + 1) (oadd s ws[j]) (by omega) (by omega) ho.1 ho.2
    simp only [sum_Add.l0, e1, er]
    rw [if_pos (by omega), if_pos (by omega), if_pos (by omega), show ws[j] % 4294967296 = ws[j] from by omega, Add32_eq ⟨h0, h1⟩ hx]
    simp only [Option.bind_some]
    have eo : ((s + ws[j]) % 4294967296 + (s + ws[j]) / 4294967296) % 4294967296 = oadd s ws[j] := by unfold oadd; split <;> omega
    rw [eo, hi, List.drop_eq_getElem_cons hjl]
    rfl
theorem add_eq (s : Int) (l : List Int) (hb : IsB l) (hl : l.length ≤ 1000000000) (h0 : 0 ≤ s) (h1 : s ≤ 4294967295) (k : Nat) (hk : l.length + 1 < k) : sum_Add.f k s l = some (addw s (words l)) := by
  unfold sum_Add.f
  rw [words_eq l hb hl k hk]
  have hwl := words_length l
  have := add_l0 (words l) (words_isW l hb) (by omega) (words l).length k 0 s (by omega) (by omega) h0 h1
  simpa using this
theorem fold_small {k : Nat} {s : Int} (h0 : 0 ≤ s) (h1 : s ≤ 65535) : sum_Fold.l0 (k + 1) s = some s := by
  simp only [sum_Fold.l0]
  rw [if_pos (by omega), u16w h0 h1]
theorem fold_step {k : Nat} {s : Int} (h0 : 65536 ≤ s) (h1 : s ≤ 4294967295) : sum_Fold.l0 (k + 1) s = sum_Fold.l0 k (s % 65536 + s / 65536) := by
  simp only [sum_Fold.l0]
  rw [if_neg (by omega), and_65535 (by omega) h1, show (s % 65536 + s / 65536) % 4294967296 = s % 65536 + s / 65536 from by omega]
theorem fold_eq (s : Int) (h0 : 0 ≤ s) (h1 : s ≤ 4294967295) (k : Nat) (hk : 3 < k) : sum_Fold.f k s = some (norm s) := by
  obtain ⟨k, rfl⟩ : ∃ m, k = m + 3 := ⟨k - 3, by omega⟩
  unfold sum_Fold.f
  by_cases c : s ≤ 65535
  · rw [fold_small h0 c, norm_small h0 c]
  · rw [fold_step (by omega) h1]
    by_cases c2 : s % 65536 + s / 65536 ≤ 65535
    · rw [fold_small (by omega) c2]
      congr 1; unfold norm; rw [if_neg (by omega)]; omega
    · rw [fold_step (by omega) (by omega), fold_small (by omega) (by omega)]
      congr 1; unfold norm; rw [if_neg (by omega)]; omega
/-- the reference's -/
theorem rwords_l0 (l : List Int) (hb : IsB l) (hl : l.length ≤ 1000000000) (d : Nat) : ∀ (k j : Nat), j + d = (l.length + 1) / 2 → d < k →
    lychref1_Words.l0 k l ((words l).take j) ((2 * j : Nat) : Int) = some (words l) := by
  induction d with
  | zero =>
    intro k j hj hk
    obtain ⟨k, rfl⟩ : ∃ m, k = m + 1 := ⟨k - 1, by omega⟩
    simp only [lychref1_Words.l0]
    rw [if_neg (by omega), List.take_of_length_le (by rw [words_length]; omega)]
  | succ d ih =>
    intro k j hj hk
    obtain ⟨k, rfl⟩ : ∃ m, k = m + 1 := ⟨k - 1, by omega⟩
    have e3 : wrap64 (((2 * j : Nat) : Int) + 1) = ((2 * j + 1 : Nat) : Int) := by rw [wrap64_id (by omega) (by omega)]; omega
    have e1 : wrap64 (((2 * j : Nat) : Int) + 2) = ((2 * (j + 1) : Nat) : Int) := by rw [wrap64_id (by omega) (by omega)]; omega
    have h1 := hb.getD (2 * j)
    have h2 := hb.getD (2 * j + 1)
    have hlen : ((words l).take j).length < 70368744177664 := by rw [List.length_take, words_length]; omega
    have ht := take_words l j (by omega)
    have hi := ih k (j + 1) (by omega) (by omega)
    simp only [lychref1_Words.l0, e3, e1]
    rw [if_pos (by omega), if_pos (by omega), rd_at l _ (2 * j) rfl, rd_at l _ (2 * j + 1) rfl]
    rw [u16w (by omega) (by omega : l.getD (2 * j) 0 ≤ 65535), u16w (by omega) (by omega : l.getD (2 * j) 0 * 256 ≤ 65535), u16w (by omega) (by omega : l.getD (2 * j + 1) 0 ≤ 65535), join16 h1 h2]
    by_cases hc : 2 * j + 1 < l.length
    · rw [if_pos (by omega), if_pos (by omega), if_pos hlen, ← ht]
      exact hi
    · have h0 : l.getD (2 * j + 1) 0 = 0 := by rw [List.getD_eq_getElem?_getD, List.getElem?_eq_none (by omega)]; rfl
      rw [if_neg (by omega), if_pos hlen]
      rw [h0, Int.add_zero] at ht
      rw [← ht]
      exact hi
theorem rwords_eq (l : List Int) (hb : IsB l) (hl : l.length ≤ 1000000000) (k : Nat) (hk : l.length + 1 < k) : lychref1_Words.f k l = some (words l) := by
  have h := rwords_l0 l hb hl ((l.length + 1) / 2) k 0 (by omega) (by omega)
  unfold lychref1_Words.f
  simpa using h
theorem radd_l0 (ws : List Int) (hw : IsW ws) (hl : ws.length ≤ 1000000000) (d : Nat) : ∀ (k j : Nat) (s : Int), j + d = ws.length → d < k → 0 ≤ s → s ≤ 4294967295 →
    lychref1_Add.l0 k s ws (j : Int) = some (addw s (ws.drop j)) := by
  induction d with
  | zero =>
    intro k j s hj hk h0 h1
    obtain ⟨k, rfl⟩ : ∃ m, k = m + 1 := ⟨k - 1, by omega⟩
    simp only [lychref1_Add.l0]
    rw [if_neg (by omega), List.drop_of_length_le (by omega), show s % 4294967296 = s from by omega]
    rfl
  | succ d ih =>
    intro k j s hj hk h0 h1
    obtain ⟨k, rfl⟩ : ∃ m, k = m + 1 := ⟨k - 1, by omega⟩
    have hjl : j < ws.length := by omega
    have hx := hw _ (List.getElem_mem hjl)
    have e1 : wrap64 ((j : Int) + 1) = ((j + 1 : Nat) : Int) := by rw [wrap64_id (by omega) (by omega)]; omega
    have er : rd ws (j : Int) = ws[j] := by rw [rd_at ws _ j rfl, List.getD_eq_getElem?_getD, List.getElem?_eq_getElem hjl]; rfl
    have ho := oadd_range h0 h1 hx
    have hi := ih k (j + 1) (oadd s ws[j]) (by omega) (by omega) ho.1 ho.2
    simp only [lychref1_Add.l0, e1, er]
    rw [if_pos (by omega), if_pos (by omega), u64w (n := ws[j]) (by omega) (by omega), u64w (n := s + ws[j]) (by omega) (by omega)]
    rw [List.drop_eq_getElem_cons hjl]
    show _ = some (addw (oadd s ws[j]) (ws.drop (j + 1)))
    rw [← hi]
    by_cases hc : s + ws[j] > 4294967295
    · rw [if_pos hc]
      congr 1
      rw [IntKind.wrap_u64, IntKind.wrap_u64]
      unfold oadd; rw [if_pos hc]; omega
    · rw [if_neg hc]
      congr 1; unfold oadd; rw [if_neg hc]
theorem radd_eq (s : Int) (l : List Int) (hb : IsB l) (hl : l.length ≤ 1000000000) (h0 : 0 ≤ s) (h1 : s ≤ 4294967295) (k : Nat) (hk : l.length + 1 < k) : lychref1_Add.f k s l = some (addw s (words l)) := by
  unfold lychref1_Add.f
  rw [rwords_eq l hb hl k hk]
  have hwl := words_length l
  have := radd_l0 (words l) (words_isW l hb) (by omega) (words l).length k 0 s (by omega) (by omega) h0 h1
  simp only [Option.bind_some, u64w h0 (show s ≤ 18446744073709551615 from by omega)]
  simpa using this
theorem rfold_eq (s : Int) (h0 : 0 ≤ s) (h1 : s ≤ 4294967295) (k : Nat) (hk : 3 < k) : lychref1_Fold.f k s = some (norm s) := by
  have hs : ∀ {k : Nat} {s : Int}, 0 ≤ s → s ≤ 65535 → lychref1_Fold.l0 (k + 1) s = some s := by
    intro k s h0 h1
    simp only [lychref1_Fold.l0]
    rw [if_pos (by omega), u16w h0 h1]
  have ht : ∀ {k : Nat} {s : Int}, 65536 ≤ s → s ≤ 4294967295 → lychref1_Fold.l0 (k + 1) s = lychref1_Fold.l0 k (s / 65536 + s % 65536) := by
    intro k s h0 h1
    simp only [lychref1_Fold.l0]
    rw [if_neg (by omega), and_65535 (by omega) h1, show (s / 65536 + s % 65536) % 4294967296 = s / 65536 + s % 65536 from by omega]
  obtain ⟨k, rfl⟩ : ∃ m, k = m + 3 := ⟨k - 3, by omega⟩
  unfold lychref1_Fold.f
  by_cases c : s ≤ 65535
  · rw [hs h0 c, norm_small h0 c]
  · rw [ht (by omega) h1]
    by_cases c2 : s / 65536 + s % 65536 ≤ 65535
    · rw [hs (by omega) c2]
      congr 1; unfold norm; rw [if_neg (by omega)]; omega
    · rw [ht (by omega) (by omega), hs (by omega) (by omega)]
      congr 1; unfold norm; rw [if_neg (by omega)]; omega
end Go.Proofs.Ytmlmiiejifhfeaa.SumEq
