/- Texts of this claim, merged: BytesEq, BytesEqB, FT, SumEq, SumEqP, PBx1, PBx57, RwTs, PBx29, PBx31, SpecSum, FU, FU2, SumEqO, FI, PBx41, FR, FB, RwPp, PBx40, FE, PBx33, PBx4, PBx21, FV, RwSg, PBx56, RwIn, RwRHop, RwHp, RwHb, RwHopsOut. -/
import Derived.Test.YtkmimamminddiaaZge
import Derived.Test.YtkmimamminddiaaZgb
import Derived.Test.YtkmimamminddiaaZgd
import Derived.Test.YtkmimamminddiaaZgc
import Derived.Deep.Cut
import Derived.Deep.CutRange
import Derived.Deep.CutBlock
import Derived.Deep.WholeRow
set_option maxHeartbeats 40000000
set_option maxRecDepth 100000
/- Numbers out of bytes, and bytes of numbers: what the printed helps of the references come to. -/
namespace Go.Proofs.Ytkmimamminddiaa.BytesEq
set_option linter.unusedVariables false
set_option linter.unusedSimpArgs false
open Go.RowKit Go.Proofs.Ytkmimamminddiaa.PB Go.Proofs.YtkmimamminddiaaW.PrintWords Go.Proofs.YtkmimamminddiaaW.PrintLast Go.Proofs.Ytkmimamminddiaa.Spec
theorem rd_nat (l : List Int) (i : Int) (j : Nat) (h : i = (j : Int)) : rd l i = l.getD j 0 := by subst h; simp [rd]
theorem u8_wf {x : Int} (h : (Lit.int .u8 x).wf = true) : 0 ≤ x ∧ x ≤ 255 := by
 simp [Lit.wf, IntKind.min, IntKind.max, IntKind.bits, IntKind.signed] at h; omega
def g16 (l : List Int) (i : Nat) : Int := l.getD i 0 * 256 + l.getD (i + 1) 0
def g32 (l : List Int) (i : Nat) : Int := g16 l i * 65536 + g16 l (i + 2)
theorem g16_range {l : List Int} (h : IsB l) (i : Nat) : 0 ≤ g16 l i ∧ g16 l i ≤ 65535 := by
 have h1 := h.getD i
 have h2 := h.getD (i + 1)
 unfold g16; omega
theorem g32_range {l : List Int} (h : IsB l) (i : Nat) : 0 ≤ g32 l i ∧ g32 l i ≤ 4294967295 := by
 have h1 := g16_range h i
 have h2 := g16_range h (i + 2)
 unfold g32; omega
theorem word16 {a b : Int} (ha : 0 ≤ a ∧ a ≤ 255) (hb : 0 ≤ b ∧ b ≤ 255) : Go.bits .or .u16 (IntKind.u16.wrap ((IntKind.u16.wrap a) * 256)) (IntKind.u16.wrap b) = a * 256 + b := by
 rw [u16w (n := a) (by omega) (by omega), u16w (n := a * 256) (by omega) (by omega), u16w (n := b) (by omega) (by omega), join16 ha hb]
theorem word32 {a b : Int} (ha : 0 ≤ a ∧ a ≤ 65535) (hb : 0 ≤ b ∧ b ≤ 65535) : Go.bits .or .u32 (((a % 4294967296) * 65536) % 4294967296) (b % 4294967296) = a * 65536 + b := by
 rw [show a % 4294967296 = a from by omega, show (a * 65536) % 4294967296 = a * 65536 from by omega, show b % 4294967296 = b from by omega]
 exact or_u32 16 (by omega) (by omega) (by omega) (by omega) (by omega) (by omega)
theorem get16_eq {l : List Int} (h : IsB l) (i : Nat) (hi : i + 2 ≤ l.length) (hl : l.length ≤ 1000000000) : lychref1_Get16.f l (i : Int) = some (g16 l i) := by
 unfold lychref1_Get16.f
 have e : wrap64 ((i : Int) + 1) = ((i + 1 : Nat) : Int) := by rw [wrap64_id (by omega) (by omega)]; omega
 rw [e, if_pos (by omega), if_pos (by omega), if_pos (by omega), if_pos (by omega), rd_nat l _ i rfl, rd_nat l _ (i + 1) rfl, word16 (h.getD i) (h.getD (i + 1))]
 rfl
theorem clone_eq (l : List Int) (hl : l.length ≤ 1000000000) : slices_Clone_byte_byte.f l = some l := by
 unfold slices_Clone_byte_byte.f
 rw [if_pos (by omega)]
end Go.Proofs.Ytkmimamminddiaa.BytesEq
/- Numbers of 32 bits out of bytes. -/
namespace Go.Proofs.Ytkmimamminddiaa.BytesEq
set_option linter.unusedVariables false
set_option linter.unusedSimpArgs false
open Go.RowKit Go.Proofs.Ytkmimamminddiaa.PB Go.Proofs.YtkmimamminddiaaW.PrintWords Go.Proofs.YtkmimamminddiaaW.PrintLast Go.Proofs.Ytkmimamminddiaa.Spec
theorem get32_eq {l : List Int} (h : IsB l) (i : Nat) (hi : i + 4 ≤ l.length) (hl : l.length ≤ 1000000000) : lychref1_Get32.f l (i : Int) = some (g32 l i) := by
 unfold lychref1_Get32.f
 have e : wrap64 ((i : Int) + 2) = ((i + 2 : Nat) : Int) := by rw [wrap64_id (by omega) (by omega)]; omega
 rw [e, get16_eq h i (by omega) hl, get16_eq h (i + 2) (by omega) hl]
 simp only [Option.bind_some]
 rw [word32 (g16_range h i) (g16_range h (i + 2))]
 rfl
end Go.Proofs.Ytkmimamminddiaa.BytesEq
/- Plain: PureTcpsR, PureTcps. -/
namespace Go.Proofs.Ytkmimamminddiaa.Pure
set_option linter.unusedVariables false
set_option linter.unusedSimpArgs false
open Go.RowKit Go.Proofs.Ytkmimamminddiaa.PB Go.Proofs.YtkmimamminddiaaW.PrintWords Go.Proofs.YtkmimamminddiaaW.PrintLast
open Go.Proofs.Ytkmimamminddiaa.Spec Go.Proofs.Ytkmimamminddiaa.BytesEq
end Go.Proofs.Ytkmimamminddiaa.Pure
/- What the printed functions of the checksum come to: the plain words, sums and folds. -/
namespace Go.Proofs.Ytkmimamminddiaa.SumEq
set_option linter.unusedVariables false
set_option linter.unusedSimpArgs false
open Go.RowKit Go.Proofs.Ytkmimamminddiaa.PB Go.Proofs.YtkmimamminddiaaW.PrintWords Go.Proofs.YtkmimamminddiaaW.PrintLast Go.Proofs.Ytkmimamminddiaa.Spec
theorem rd_at (l : List Int) (i : Int) (j : Nat) (h : i = (j : Int)) : rd l i = l.getD j 0 := by subst h; simp [rd]
theorem take_words (l : List Int) (j : Nat) (h : 2 * j < l.length) : (words l).take (j + 1) = (words l).take j ++ [l.getD (2 * j) 0 * 256 + l.getD (2 * j + 1) 0] := by
 have hl := words_length l
 have hg := words_get l j h
 have hj : j < (words l).length := by omega
 rw [List.getElem?_eq_getElem hj] at hg
 injection hg with hg
 rw [List.take_succ_eq_append_getElem hj, hg]
theorem words_l0 (l : List Int) (hb : IsB l) (hl : l.length ≤ 1000000000) (d : Nat) : ∀ (k j : Nat), j + d = (l.length + 1) / 2 → d < k →
  sum_Words.l0 k l ((words l).take j) (((l.length + 1) / 2 : Nat) : Int) (j : Int) = some (words l) := by
 induction d with
 | zero =>
  intro k j hj hk
  obtain ⟨k, rfl⟩ : ∃ m, k = m + 1 := ⟨k - 1, by omega⟩
  simp only [sum_Words.l0]
  rw [if_neg (by omega), List.take_of_length_le (by rw [words_length]; omega)]
 | succ d ih =>
  intro k j hj hk
  obtain ⟨k, rfl⟩ : ∃ m, k = m + 1 := ⟨k - 1, by omega⟩
  have e2 : wrap64 (2 * (j : Int)) = ((2 * j : Nat) : Int) := by rw [wrap64_id (by omega) (by omega)]; omega
  have e3 : wrap64 (((2 * j : Nat) : Int) + 1) = ((2 * j + 1 : Nat) : Int) := by rw [wrap64_id (by omega) (by omega)]; omega
  have e1 : wrap64 ((j : Int) + 1) = ((j + 1 : Nat) : Int) := by rw [wrap64_id (by omega) (by omega)]; omega
  have h1 := hb.getD (2 * j)
  have h2 := hb.getD (2 * j + 1)
  have hlen : ((words l).take j).length < 70368744177664 := by rw [List.length_take, words_length]; omega
  have ht := take_words l j (by omega)
  have hi := ih k (j + 1) (by omega) (by omega)
  simp only [sum_Words.l0, e2, e3, e1]
  rw [if_pos (by omega), if_pos (by omega), if_pos (by omega), rd_at l _ (2 * j) rfl, rd_at l _ (2 * j + 1) rfl]
  rw [u16w (by omega) (by omega : l.getD (2 * j) 0 ≤ 65535), u16w (by omega) (by omega : l.getD (2 * j) 0 * 256 ≤ 65535), u16w (by omega) (by omega : l.getD (2 * j + 1) 0 ≤ 65535), join16 h1 h2]
  by_cases hc : 2 * j + 1 < l.length
  ·rw [if_pos (by omega), if_pos (by omega), if_pos hlen, ← ht]
   exact hi
  ·have h0 : l.getD (2 * j + 1) 0 = 0 := by rw [List.getD_eq_getElem?_getD, List.getElem?_eq_none (by omega)]; rfl
   rw [if_neg (by omega), if_pos hlen]
   rw [h0, Int.add_zero] at ht
   rw [← ht]
   exact hi
theorem words_eq (l : List Int) (hb : IsB l) (hl : l.length ≤ 1000000000) (k : Nat) (hk : l.length + 1 < k) : sum_Words.f k l = some (words l) := by
 have h := words_l0 l hb hl ((l.length + 1) / 2) k 0 (by omega) (by omega)
 unfold sum_Words.f
 have e : wrap64 (Int.tdiv (wrap64 ((l.length : Int) + 1)) 2) = (((l.length + 1) / 2 : Nat) : Int) := by
  rw [wrap64_id (n := (l.length : Int) + 1) (by omega) (by omega), Int.tdiv_eq_ediv_of_nonneg (by omega), wrap64_id (by omega) (by omega)]; omega
 rw [e]
 simpa using h
theorem Add32_eq {a b : Int} (ha : 0 ≤ a ∧ a ≤ 4294967295) (hb : 0 ≤ b ∧ b ≤ 65535) : bits_Add32.f a b 0 = some ((a + b) % 4294967296, (a + b) / 4294967296) := by
 unfold bits_Add32.f
 rw [u64w ha.1 (by omega), u64w hb.1 (by omega), u64w (n := a + b) (by omega) (by omega), u64w (n := (0 : Int)) (by omega) (by omega), u64w (n := a + b + 0) (by omega) (by omega)]
 rw [Int.add_zero, show ((a + b) / 4294967296) % 4294967296 = (a + b) / 4294967296 from by omega]
theorem add_l0 (ws : List Int) (hw : IsW ws) (hl : ws.length ≤ 1000000000) (d : Nat) : ∀ (k j : Nat) (s : Int), j + d = ws.length → d < k → 0 ≤ s → s ≤ 4294967295 →
  sum_Add.l0 k s ws (ws.length : Int) (j : Int) = some (addw s (ws.drop j)) := by
 induction d with
 | zero =>
  intro k j s hj hk h0 h1
  obtain ⟨k, rfl⟩ : ∃ m, k = m + 1 := ⟨k - 1, by omega⟩
  simp only [sum_Add.l0]
  rw [if_neg (by omega), List.drop_of_length_le (by omega)]
  rfl
 | succ d ih =>
  intro k j s hj hk h0 h1
  obtain ⟨k, rfl⟩ : ∃ m, k = m + 1 := ⟨k - 1, by omega⟩
  have hjl : j < ws.length := by omega
  have hx := hw _ (List.getElem_mem hjl)
  have e1 : wrap64 ((j : Int) + 1) = ((j + 1 : Nat) : Int) := by rw [wrap64_id (by omega) (by omega)]; omega
  have er : rd ws (j : Int) = ws[j] := by rw [rd_at ws _ j rfl, List.getD_eq_getElem?_getD, List.getElem?_eq_getElem hjl]; rfl
  have ho := oadd_range h0 h1 hx
  have hi := ih k (j + 1) (oadd s ws[j]) (by omega) (by omega) ho.1 ho.2
  simp only [sum_Add.l0, e1, er]
  rw [if_pos (by omega), if_pos (by omega), if_pos (by omega), show ws[j] % 4294967296 = ws[j] from by omega, Add32_eq ⟨h0, h1⟩ hx]
  simp only [Option.bind_some]
  have eo : ((s + ws[j]) % 4294967296 + (s + ws[j]) / 4294967296) % 4294967296 = oadd s ws[j] := by unfold oadd; split <;> omega
  rw [eo, hi, List.drop_eq_getElem_cons hjl]
  rfl
theorem add_eq (s : Int) (l : List Int) (hb : IsB l) (hl : l.length ≤ 1000000000) (h0 : 0 ≤ s) (h1 : s ≤ 4294967295) (k : Nat) (hk : l.length + 1 < k) : sum_Add.f k s l = some (addw s (words l)) := by
 unfold sum_Add.f
 rw [words_eq l hb hl k hk]
 have hwl := words_length l
 have := add_l0 (words l) (words_isW l hb) (by omega) (words l).length k 0 s (by omega) (by omega) h0 h1
 simpa using this
theorem fold_small {k : Nat} {s : Int} (h0 : 0 ≤ s) (h1 : s ≤ 65535) : sum_Fold.l0 (k + 1) s = some s := by
 simp only [sum_Fold.l0]
 rw [if_pos (by omega), u16w h0 h1]
theorem fold_step {k : Nat} {s : Int} (h0 : 65536 ≤ s) (h1 : s ≤ 4294967295) : sum_Fold.l0 (k + 1) s = sum_Fold.l0 k (s % 65536 + s / 65536) := by
 simp only [sum_Fold.l0]
 rw [if_neg (by omega), and_65535 (by omega) h1, show (s % 65536 + s / 65536) % 4294967296 = s % 65536 + s / 65536 from by omega]
theorem fold_eq (s : Int) (h0 : 0 ≤ s) (h1 : s ≤ 4294967295) (k : Nat) (hk : 3 < k) : sum_Fold.f k s = some (norm s) := by
 obtain ⟨k, rfl⟩ : ∃ m, k = m + 3 := ⟨k - 3, by omega⟩
 unfold sum_Fold.f
 by_cases c : s ≤ 65535
 ·rw [fold_small h0 c, norm_small h0 c]
 ·rw [fold_step (by omega) h1]
  by_cases c2 : s % 65536 + s / 65536 ≤ 65535
  ·rw [fold_small (by omega) c2]
   congr 1; unfold norm; rw [if_neg (by omega)]; omega
  ·rw [fold_step (by omega) (by omega), fold_small (by omega) (by omega)]
   congr 1; unfold norm; rw [if_neg (by omega)]; omega
theorem rwords_l0 (l : List Int) (hb : IsB l) (hl : l.length ≤ 1000000000) (d : Nat) : ∀ (k j : Nat), j + d = (l.length + 1) / 2 → d < k →
  lychref1_Words.l0 k l ((words l).take j) ((2 * j : Nat) : Int) = some (words l) := by
 induction d with
 | zero =>
  intro k j hj hk
  obtain ⟨k, rfl⟩ : ∃ m, k = m + 1 := ⟨k - 1, by omega⟩
  simp only [lychref1_Words.l0]
  rw [if_neg (by omega), List.take_of_length_le (by rw [words_length]; omega)]
 | succ d ih =>
  intro k j hj hk
  obtain ⟨k, rfl⟩ : ∃ m, k = m + 1 := ⟨k - 1, by omega⟩
  have e3 : wrap64 (((2 * j : Nat) : Int) + 1) = ((2 * j + 1 : Nat) : Int) := by rw [wrap64_id (by omega) (by omega)]; omega
  have e1 : wrap64 (((2 * j : Nat) : Int) + 2) = ((2 * (j + 1) : Nat) : Int) := by rw [wrap64_id (by omega) (by omega)]; omega
  have h1 := hb.getD (2 * j)
  have h2 := hb.getD (2 * j + 1)
  have hlen : ((words l).take j).length < 70368744177664 := by rw [List.length_take, words_length]; omega
  have ht := take_words l j (by omega)
  have hi := ih k (j + 1) (by omega) (by omega)
  simp only [lychref1_Words.l0, e3, e1]
  rw [if_pos (by omega), if_pos (by omega), rd_at l _ (2 * j) rfl, rd_at l _ (2 * j + 1) rfl]
  rw [u16w (by omega) (by omega : l.getD (2 * j) 0 ≤ 65535), u16w (by omega) (by omega : l.getD (2 * j) 0 * 256 ≤ 65535), u16w (by omega) (by omega : l.getD (2 * j + 1) 0 ≤ 65535), join16 h1 h2]
  by_cases hc : 2 * j + 1 < l.length
  ·rw [if_pos (by omega), if_pos (by omega), if_pos hlen, ← ht]
   exact hi
  ·have h0 : l.getD (2 * j + 1) 0 = 0 := by rw [List.getD_eq_getElem?_getD, List.getElem?_eq_none (by omega)]; rfl
   rw [if_neg (by omega), if_pos hlen]
   rw [h0, Int.add_zero] at ht
   rw [← ht]
   exact hi
theorem rwords_eq (l : List Int) (hb : IsB l) (hl : l.length ≤ 1000000000) (k : Nat) (hk : l.length + 1 < k) : lychref1_Words.f k l = some (words l) := by
 have h := rwords_l0 l hb hl ((l.length + 1) / 2) k 0 (by omega) (by omega)
 unfold lychref1_Words.f
 simpa using h
theorem radd_l0 (ws : List Int) (hw : IsW ws) (hl : ws.length ≤ 1000000000) (d : Nat) : ∀ (k j : Nat) (s : Int), j + d = ws.length → d < k → 0 ≤ s → s ≤ 4294967295 →
  lychref1_Add.l0 k s ws (j : Int) = some (addw s (ws.drop j)) := by
 induction d with
 | zero =>
  intro k j s hj hk h0 h1
  obtain ⟨k, rfl⟩ : ∃ m, k = m + 1 := ⟨k - 1, by omega⟩
  simp only [lychref1_Add.l0]
  rw [if_neg (by omega), List.drop_of_length_le (by omega), show s % 4294967296 = s from by omega]
  rfl
 | succ d ih =>
  intro k j s hj hk h0 h1
  obtain ⟨k, rfl⟩ : ∃ m, k = m + 1 := ⟨k - 1, by omega⟩
  have hjl : j < ws.length := by omega
  have hx := hw _ (List.getElem_mem hjl)
  have e1 : wrap64 ((j : Int) + 1) = ((j + 1 : Nat) : Int) := by rw [wrap64_id (by omega) (by omega)]; omega
  have er : rd ws (j : Int) = ws[j] := by rw [rd_at ws _ j rfl, List.getD_eq_getElem?_getD, List.getElem?_eq_getElem hjl]; rfl
  have ho := oadd_range h0 h1 hx
  have hi := ih k (j + 1) (oadd s ws[j]) (by omega) (by omega) ho.1 ho.2
  simp only [lychref1_Add.l0, e1, er]
  rw [if_pos (by omega), if_pos (by omega), u64w (n := ws[j]) (by omega) (by omega), u64w (n := s + ws[j]) (by omega) (by omega)]
  rw [List.drop_eq_getElem_cons hjl]
  show _ = some (addw (oadd s ws[j]) (ws.drop (j + 1)))
  rw [← hi]
  by_cases hc : s + ws[j] > 4294967295
  ·rw [if_pos hc]
   congr 1
   rw [IntKind.wrap_u64, IntKind.wrap_u64]
   unfold oadd; rw [if_pos hc]; omega
  ·rw [if_neg hc]
   congr 1; unfold oadd; rw [if_neg hc]
theorem radd_eq (s : Int) (l : List Int) (hb : IsB l) (hl : l.length ≤ 1000000000) (h0 : 0 ≤ s) (h1 : s ≤ 4294967295) (k : Nat) (hk : l.length + 1 < k) : lychref1_Add.f k s l = some (addw s (words l)) := by
 unfold lychref1_Add.f
 rw [rwords_eq l hb hl k hk]
 have hwl := words_length l
 have := radd_l0 (words l) (words_isW l hb) (by omega) (words l).length k 0 s (by omega) (by omega) h0 h1
 simp only [Option.bind_some, u64w h0 (show s ≤ 18446744073709551615 from by omega)]
 simpa using this
theorem rfold_eq (s : Int) (h0 : 0 ≤ s) (h1 : s ≤ 4294967295) (k : Nat) (hk : 3 < k) : lychref1_Fold.f k s = some (norm s) := by
 have hs : ∀ {k : Nat} {s : Int}, 0 ≤ s → s ≤ 65535 → lychref1_Fold.l0 (k + 1) s = some s := by
  intro k s h0 h1
  simp only [lychref1_Fold.l0]
  rw [if_pos (by omega), u16w h0 h1]
 have ht : ∀ {k : Nat} {s : Int}, 65536 ≤ s → s ≤ 4294967295 → lychref1_Fold.l0 (k + 1) s = lychref1_Fold.l0 k (s / 65536 + s % 65536) := by
  intro k s h0 h1
  simp only [lychref1_Fold.l0]
  rw [if_neg (by omega), and_65535 (by omega) h1, show (s / 65536 + s % 65536) % 4294967296 = s / 65536 + s % 65536 from by omega]
 obtain ⟨k, rfl⟩ : ∃ m, k = m + 3 := ⟨k - 3, by omega⟩
 unfold lychref1_Fold.f
 by_cases c : s ≤ 65535
 ·rw [hs h0 c, norm_small h0 c]
 ·rw [ht (by omega) h1]
  by_cases c2 : s / 65536 + s % 65536 ≤ 65535
  ·rw [hs (by omega) c2]
   congr 1; unfold norm; rw [if_neg (by omega)]; omega
  ·rw [ht (by omega) (by omega), hs (by omega) (by omega)]
   congr 1; unfold norm; rw [if_neg (by omega)]; omega
end Go.Proofs.Ytkmimamminddiaa.SumEq
/- The sum of what stands ahead in thought. -/
namespace Go.Proofs.Ytkmimamminddiaa.SumEq
set_option linter.unusedVariables false
set_option linter.unusedSimpArgs false
open Go.RowKit Go.Proofs.Ytkmimamminddiaa.PB Go.Proofs.YtkmimamminddiaaW.PrintWords Go.Proofs.YtkmimamminddiaaW.PrintLast Go.Proofs.Ytkmimamminddiaa.Spec
end Go.Proofs.Ytkmimamminddiaa.SumEq
namespace Go.Proofs.Ytkmimamminddiaa.PB
open Go.RowKit Go.Proofs.YtkmimamminddiaaW.PrintWords Go.Proofs.YtkmimamminddiaaW.PrintLast Go.Proofs.YtkmimamminddiaaW.PrintMore
attribute [local go_sem] max2_int min2_int max_two min_two max_three min_three max_four min_four   -- for this text's walks alone
set_option linter.unusedVariables false
set_option linter.unusedSimpArgs false
theorem eqA65 (d : Nat) (w : World) (x0 y0 : Int) (x1 y1 : Int) :
  (Op.equalIn (d + 2) 65 (.agg #[.int .u32 x0, .int .u16 x1]) (.agg #[.int .u32 y0, .int .u16 y1])).run Try.prog w = .ok (x0 == y0 && (x1 == y1)) w := by
 refine eqA_of Try.underlying65 (by kernel_rfl) ?_
 refine eqf_cons (by rfl) (by go_simp; rfl) (by go_simp; rfl) (by go_simp) ?_
 exact eqf_last (by rfl) (by go_simp; rfl) (by go_simp; rfl) (by go_simp)
end Go.Proofs.Ytkmimamminddiaa.PB
namespace Go.Proofs.Ytkmimamminddiaa.PB
open Go.RowKit Go.Proofs.YtkmimamminddiaaW.PrintWords Go.Proofs.YtkmimamminddiaaW.PrintLast Go.Proofs.YtkmimamminddiaaW.PrintMore
attribute [local go_sem] max2_int min2_int max_two min_two max_three min_three max_four min_four   -- for this text's walks alone
set_option linter.unusedVariables false
set_option linter.unusedSimpArgs false
attribute [local go_sem high] eqA65
end Go.Proofs.Ytkmimamminddiaa.PB
/- Plain: segments' sums. -/
namespace Go.Proofs.Ytkmimamminddiaa.Pure
set_option linter.unusedVariables false
set_option linter.unusedSimpArgs false
open Go.RowKit Go.Proofs.Ytkmimamminddiaa.PB Go.Proofs.YtkmimamminddiaaW.PrintWords Go.Proofs.YtkmimamminddiaaW.PrintLast
open Go.Proofs.Ytkmimamminddiaa.Spec Go.Proofs.Ytkmimamminddiaa.BytesEq
section
end
end Go.Proofs.Ytkmimamminddiaa.Pure
namespace Go.Proofs.Ytkmimamminddiaa.PB
open Go.RowKit Go.Proofs.YtkmimamminddiaaW.PrintWords Go.Proofs.YtkmimamminddiaaW.PrintLast Go.Proofs.YtkmimamminddiaaW.PrintMore
attribute [local go_sem] max2_int min2_int max_two min_two max_three min_three max_four min_four   -- for this text's walks alone
set_option linter.unusedVariables false
set_option linter.unusedSimpArgs false
end Go.Proofs.Ytkmimamminddiaa.PB
/- Plain laws of the checksum: words changed, swapped, padded. -/
namespace Go.Proofs.Ytkmimamminddiaa.Spec
set_option linter.unusedVariables false
set_option linter.unusedSimpArgs false
open Go.RowKit
theorem words_set2 : ∀ (l : List Int) (t : Nat) (a b : Int), 2 * t + 1 < l.length → words ((l.set (2 * t) a).set (2 * t + 1) b) = (words l).set t (a * 256 + b)
 | [], t, a, b, h => by simp at h
 | [x], t, a, b, h => by simp at h
 | x :: y :: l, 0, a, b, h => by simp [words]
 | x :: y :: l, t + 1, a, b, h => by
  have := words_set2 l t a b (by simp only [List.length_cons] at h; omega)
  rw [show 2 * (t + 1) = 2 * t + 1 + 1 from by omega]
  simp only [List.set_cons_succ, words, this]
theorem isum_set : ∀ (ws : List Int) (t : Nat) (v : Int), t < ws.length → isum (ws.set t v) = isum ws - ws.getD t 0 + v
 | [], t, v, h => by simp at h
 | x :: ws, 0, v, h => by simp [isum]; omega
 | x :: ws, t + 1, v, h => by
  have := isum_set ws t v (by simp only [List.length_cons] at h; omega)
  simp only [List.set_cons_succ, isum, this, List.getD_cons_succ]; omega
def wordAt (l : List Int) (t : Nat) : Int := l.getD (2 * t) 0 * 256 + l.getD (2 * t + 1) 0
theorem wordAt_eq (l : List Int) (t : Nat) (h : 2 * t < l.length) : (words l).getD t 0 = wordAt l t := by
 rw [List.getD_eq_getElem?_getD, words_get l t h]; rfl
theorem isum_change (l : List Int) (t : Nat) (a b : Int) (h : 2 * t + 1 < l.length) :
  isum (words ((l.set (2 * t) a).set (2 * t + 1) b)) = isum (words l) - wordAt l t + (a * 256 + b) := by
 have hl := words_length l
 rw [words_set2 l t a b h, isum_set _ _ _ (by omega), wordAt_eq l t (by omega)]
theorem stands {S : Int} (h : 0 ≤ S) : norm (S + (65535 - norm S)) = 65535 := by
 unfold norm
 split
 ·rw [if_neg (by omega)]; omega
 ·rw [if_neg (by omega)]; omega
end Go.Proofs.Ytkmimamminddiaa.Spec
/- UdpReads, UdpBack, UdpSums, UdpGreat, UdpLengths, UdpNone, the plain statements: for all datagrams the printed laws return true. -/
namespace Go.Proofs.Ytkmimamminddiaa.Pure
set_option linter.unusedVariables false
set_option linter.unusedSimpArgs false
open Go.RowKit Go.Proofs.Ytkmimamminddiaa.PB Go.Proofs.YtkmimamminddiaaW.PrintWords Go.Proofs.YtkmimamminddiaaW.PrintLast
open Go.Proofs.Ytkmimamminddiaa.Spec Go.Proofs.Ytkmimamminddiaa.BytesEq
end Go.Proofs.Ytkmimamminddiaa.Pure
/- Plain: PureUdps. -/
namespace Go.Proofs.Ytkmimamminddiaa.Pure
set_option linter.unusedVariables false
set_option linter.unusedSimpArgs false
open Go.RowKit Go.Proofs.Ytkmimamminddiaa.PB Go.Proofs.YtkmimamminddiaaW.PrintWords Go.Proofs.YtkmimamminddiaaW.PrintLast
open Go.Proofs.Ytkmimamminddiaa.Spec Go.Proofs.Ytkmimamminddiaa.BytesEq
end Go.Proofs.Ytkmimamminddiaa.Pure
/- The checksum of bytes. -/
namespace Go.Proofs.Ytkmimamminddiaa.SumEq
set_option linter.unusedVariables false
set_option linter.unusedSimpArgs false
open Go.RowKit Go.Proofs.Ytkmimamminddiaa.PB Go.Proofs.YtkmimamminddiaaW.PrintWords Go.Proofs.YtkmimamminddiaaW.PrintLast Go.Proofs.Ytkmimamminddiaa.Spec
theorem of_eq (l : List Int) (hb : IsB l) (hl : l.length ≤ 1000000000) (k : Nat) (hk : l.length + 1 < k) (hk3 : 3 < k) : sum_Of.f k l = some (ck l) := by
 have hr := addw_range (words l) 0 (by omega) (by omega) (words_isW l hb)
 have hn := norm_addw (words l) 0 (by omega) (by omega) (words_isW l hb)
 have hp := norm_range _ (isum_nonneg _ (words_isW l hb))
 unfold sum_Of.f
 rw [add_eq 0 l hb hl (by omega) (by omega) k hk]
 simp only [Option.bind_some]
 rw [fold_eq _ hr.1 hr.2 k hk3, hn, Int.zero_add]
 simp only [Option.bind_some]
 rw [show (IntKind.u16.max : Int) = 65535 from rfl, not_u16 hp.1 hp.2]
 rfl
theorem rof_eq (l : List Int) (hb : IsB l) (hl : l.length ≤ 1000000000) (k : Nat) (hk : l.length + 1 < k) (hk3 : 3 < k) : lychref1_Of.f k l = some (ck l) := by
 have hr := addw_range (words l) 0 (by omega) (by omega) (words_isW l hb)
 have hn := norm_addw (words l) 0 (by omega) (by omega) (words_isW l hb)
 have hp := norm_range _ (isum_nonneg _ (words_isW l hb))
 unfold lychref1_Of.f
 rw [radd_eq 0 l hb hl (by omega) (by omega) k hk]
 simp only [Option.bind_some]
 rw [rfold_eq _ hr.1 hr.2 k hk3, hn, Int.zero_add]
 simp only [Option.bind_some]
 rw [show (IntKind.u16.max : Int) = 65535 from rfl, not_u16 hp.1 hp.2]
 rfl
end Go.Proofs.Ytkmimamminddiaa.SumEq
/- Plain: PureIcmps. -/
namespace Go.Proofs.Ytkmimamminddiaa.PureI
set_option linter.unusedVariables false
set_option linter.unusedSimpArgs false
open Go.RowKit Go.Proofs.Ytkmimamminddiaa.PB Go.Proofs.YtkmimamminddiaaW.PrintWords Go.Proofs.YtkmimamminddiaaW.PrintLast
open Go.Proofs.Ytkmimamminddiaa.Spec Go.Proofs.Ytkmimamminddiaa.BytesEq
theorem word32b {a b c d : Int} (ha : 0 ≤ a ∧ a ≤ 255) (hb : 0 ≤ b ∧ b ≤ 255) (hc : 0 ≤ c ∧ c ≤ 255) (hd : 0 ≤ d ∧ d ≤ 255) :
  Go.bits .or .u32 (Go.bits .or .u32 (Go.bits .or .u32 (((a % 4294967296) * 16777216) % 4294967296) (((b % 4294967296) * 65536) % 4294967296)) (((c % 4294967296) * 256) % 4294967296)) (d % 4294967296) = a * 16777216 + b * 65536 + c * 256 + d := by
 rw [show a % 4294967296 = a from by omega, show a * 16777216 % 4294967296 = a * 16777216 from by omega, show b % 4294967296 = b from by omega, show b * 65536 % 4294967296 = b * 65536 from by omega, show c % 4294967296 = c from by omega, show c * 256 % 4294967296 = c * 256 from by omega, show d % 4294967296 = d from by omega]
 rw [or_u32 24 (x := a * 16777216) (y := b * 65536) (by omega) (by omega) (by omega) (by omega) (by omega) (by omega)]
 rw [or_u32 16 (x := a * 16777216 + b * 65536) (y := c * 256) (by omega) (by omega) (by omega) (by omega) (by omega) (by omega)]
 rw [or_u32 8 (x := a * 16777216 + b * 65536 + c * 256) (y := d) (by omega) (by omega) (by omega) (by omega) (by omega) (by omega)]
def imsg (l : List Int) : Int × Int × Int × Int × List Int × Int := if l.length < 8 then (0, 0, 0, 0, [], 20) else (l.getD 0 0, l.getD 1 0, g16 l 2, g32 l 4, l.drop 8, 0)
theorem iparse_eq {l : List Int} (h : IsB l) (hl : l.length ≤ 1000000000) : icmp_Parse.f l = some (imsg l) := by
 unfold icmp_Parse.f imsg
 by_cases h8 : l.length < 8
 ·rw [if_pos (by omega), if_pos h8]
 ·rw [if_neg (by omega), if_neg h8, if_pos (by omega), if_pos (by omega), if_pos (by omega), if_pos (by omega), if_pos (by omega), if_pos (by omega), if_pos (by omega), if_pos (by omega), if_pos (by omega), clone_eq _ (by rw [List.length_drop]; omega)]
  simp only [Option.bind_some]
  rw [rd_nat l 0 0 rfl, rd_nat l 1 1 rfl, rd_nat l 2 2 rfl, rd_nat l 3 3 rfl, rd_nat l 4 4 rfl, rd_nat l 5 5 rfl, rd_nat l 6 6 rfl, rd_nat l 7 7 rfl, word16 (h.getD 2) (h.getD 3), word32b (h.getD 4) (h.getD 5) (h.getD 6) (h.getD 7)]
  have e : g32 l 4 = (l.getD 4 0 * 256 + l.getD 5 0) * 65536 + (l.getD 6 0 * 256 + l.getD 7 0) := rfl
  rw [e, show (l.getD 4 0 * 256 + l.getD 5 0) * 65536 + (l.getD 6 0 * 256 + l.getD 7 0) = l.getD 4 0 * 16777216 + l.getD 5 0 * 65536 + l.getD 6 0 * 256 + l.getD 7 0 from by omega]
  rfl
def ibytes (t c s r : Int) (l : List Int) : List Int := [t, c, s / 256 % 256, s % 256, r / 16777216 % 256, r / 65536 % 256, r / 256 % 256, r % 256] ++ l
theorem ribytes_eq (t c s r : Int) {l : List Int} (hl : l.length ≤ 1000000000) : lychref1_IcmpBytes.f t c s r l = if (l.length : Int) > 65507 then some ([], 23) else some (ibytes t c s r l, 0) := by
 unfold lychref1_IcmpBytes.f lychref1_Put16.f lychref1_Put32.f ibytes
 by_cases h : (l.length : Int) > 65507
 ·rw [if_pos h, if_pos h]
 ·rw [if_neg h, if_neg h]
  simp only [Option.bind_some, List.length_cons, List.length_nil, List.cons_append, List.nil_append]
  rw [if_pos (by omega)]
  simp only [Option.bind_some, List.length_cons, List.length_nil, List.cons_append, List.nil_append]
  rw [if_pos (by omega)]
  simp only [Option.bind_some, List.length_cons, List.length_nil, List.cons_append, List.nil_append]
  rw [if_pos (by omega)]
theorem ibytes_isB {t c s r : Int} {l : List Int} (ht : 0 ≤ t ∧ t ≤ 255) (hc : 0 ≤ c ∧ c ≤ 255) (h : IsB l) : IsB (ibytes t c s r l) :=
 IsB.append (.cons ht (.cons hc (.cons (by omega) (.cons (by omega) (.cons (by omega) (.cons (by omega) (.cons (by omega) (.cons (by omega) .nil)))))))) h
theorem ibytes_length (t c s r : Int) (l : List Int) : (ibytes t c s r l).length = 8 + l.length := by simp [ibytes]; omega
end Go.Proofs.Ytkmimamminddiaa.PureI
namespace Go.Proofs.Ytkmimamminddiaa.PB
open Go.RowKit Go.Proofs.YtkmimamminddiaaW.PrintWords Go.Proofs.YtkmimamminddiaaW.PrintLast Go.Proofs.YtkmimamminddiaaW.PrintMore
attribute [local go_sem] max2_int min2_int max_two min_two max_three min_three max_four min_four   -- for this text's walks alone
set_option linter.unusedVariables false
set_option linter.unusedSimpArgs false
end Go.Proofs.Ytkmimamminddiaa.PB
/- Packets out of bytes: what the proofs of the laws on packets share. -/
namespace Go.Proofs.Ytkmimamminddiaa.Pure
set_option linter.unusedVariables false
set_option linter.unusedSimpArgs false
open Go.RowKit Go.Proofs.Ytkmimamminddiaa.PB Go.Proofs.YtkmimamminddiaaW.PrintWords Go.Proofs.YtkmimamminddiaaW.PrintLast
open Go.Proofs.Ytkmimamminddiaa.Spec Go.Proofs.Ytkmimamminddiaa.BytesEq Go.Proofs.Ytkmimamminddiaa.SumEq
theorem itwo_eq {l : List Int} (h : IsB l) (i : Nat) (hi : i + 2 ≤ l.length) (hl : l.length ≤ 1000000000) : ip_reader_two.f l (i : Int) = some (g16 l i) := get16_eq h i hi hl
theorem ifour_eq {l : List Int} (h : IsB l) (i : Nat) (hi : i + 4 ≤ l.length) (hl : l.length ≤ 1000000000) : ip_reader_four.f l (i : Int) = some (g32 l i) := get32_eq h i hi hl
theorem iclone_eq (l : List Int) (hl : l.length ≤ 1000000000) : ip_reader_byte.f l = some l := by
 unfold ip_reader_byte.f
 rw [if_pos (by omega)]
theorem must_yes {c : Prop} [Decidable c] (h : c) (e : Int) : ip_must.f (decide c) e = some () := by
 unfold ip_must.f
 rw [decide_eq_true h, if_pos rfl]
theorem and16 (i : Nat) (hi : i ≤ 16) {x : Int} (h₀ : 0 ≤ x) (h₁ : x ≤ 65535) : Go.bits .and .u16 x (2 ^ i - 1) = x % 2 ^ i := bits_mask .u16 16 (by decide) wraps_u16 i hi x h₀ (by omega)
def ihead (l : List Int) : Int := 4 * (l.getD 0 0 % 16)
theorem ihead_range (l : List Int) : 0 ≤ ihead l ∧ ihead l ≤ 60 := by unfold ihead; omega
theorem ihead_eq {l : List Int} (h : IsB l) : wrap64 (4 * (wrap64 (Go.bits .and .u8 (rd l 0) 15))) = ihead l := by
 have hg := h.getD 0
 have ea : Go.bits .and .u8 (rd l 0) 15 = l.getD 0 0 % 16 := by rw [rd_nat l 0 0 rfl]; exact and_u8 4 (by omega) hg.1 hg.2
 rw [ea, wrap64_id (n := l.getD 0 0 % 16) (by omega) (by omega), wrap64_id (by omega) (by omega)]
 rfl
def isumof (l : List Int) : Int := norm (isum (words (l.take (ihead l).toNat)))
def iodd (l : List Int) : Prop := ¬ (l.getD 0 0 / 16 = 4 ∧ ihead l ≥ 20 ∧ g16 l 2 ≥ ihead l)
instance (l : List Int) : Decidable (iodd l) := inferInstanceAs (Decidable (¬ _))
def iparts (l : List Int) : Int × Int × Int × Int × Int × Int × Int × Int × List Int × List Int :=
 (l.getD 1 0, l.getD 8 0, l.getD 9 0, g16 l 4, g16 l 6 / 8192, g16 l 6 % 8192, g32 l 12, g32 l 16, (l.take (ihead l).toNat).drop 20, (l.take (g16 l 2).toNat).drop (ihead l).toNat)
def iseg (l : List Int) : Int × Int × Int × Int × Int × Int × Int × Int × List Int × List Int × Int :=
 if l.length < 20 then (0, 0, 0, 0, 0, 0, 0, 0, [], [], 20) else if iodd l then (0, 0, 0, 0, 0, 0, 0, 0, [], [], 21) else if (l.length : Int) < g16 l 2 then (0, 0, 0, 0, 0, 0, 0, 0, [], [], 20) else if isumof l ≠ 65535 then (0, 0, 0, 0, 0, 0, 0, 0, [], [], 22) else
 (l.getD 1 0, l.getD 8 0, l.getD 9 0, g16 l 4, g16 l 6 / 8192, g16 l 6 % 8192, g32 l 12, g32 l 16, (l.take (ihead l).toNat).drop 20, (l.take (g16 l 2).toNat).drop (ihead l).toNat, 0)
theorem fold_head {l : List Int} (h : IsB l) (hl : l.length ≤ 1000000000) (k : Nat) (hk : l.length + 4 < k) : ((sum_Add.f k 0 l).bind fun a => sum_Fold.f k a) = some (norm (isum (words l))) := by
 have hr := addw_range (words l) 0 (by omega) (by omega) (words_isW l h)
 have hn := norm_addw (words l) 0 (by omega) (by omega) (words_isW l h)
 rw [add_eq 0 l h hl (by omega) (by omega) k (by omega), Option.bind_some, fold_eq _ hr.1 hr.2 k (by omega), hn, Int.zero_add]
theorem fold_both {l : List Int} (h : IsB l) (hl : l.length ≤ 1000000000) (k : Nat) (hk : l.length + 4 < k) : ∃ a, sum_Add.f k 0 l = some a ∧ sum_Fold.f k a = some (norm (isum (words l))) := Option.bind_eq_some_iff.mp (fold_head h hl k hk)
theorem ipacket_eq {l : List Int} (h : IsB l) (hl : l.length ≤ 1000000000) (h20 : 20 ≤ l.length) (ho : ¬ iodd l) (hs : ¬ (l.length : Int) < g16 l 2) (hx : isumof l = 65535) (k : Nat) (hk : l.length + 5 < k) : ip_reader_packet.f k l = some (iparts l) := by
 obtain ⟨k, rfl⟩ : ∃ j, k = j + 1 := ⟨k - 1, by omega⟩
 have hh := ihead_range l
 have hg := g16_range h 2
 have hb6 := g16_range h 6
 have ho' : l.getD 0 0 / 16 = 4 ∧ ihead l ≥ 20 ∧ g16 l 2 ≥ ihead l := Decidable.not_not.mp ho
 obtain ⟨o1, o2, o3⟩ := ho'
 have p0 : 0 ≤ ihead l := hh.1
 have p1 : ihead l ≤ (l.length : Int) := by omega
 have p2 : (0 : Int) < (l.length : Int) := by omega
 have p3 : (1 : Int) < (l.length : Int) := by omega
 have p4 : (8 : Int) < (l.length : Int) := by omega
 have p5 : (9 : Int) < (l.length : Int) := by omega
 have p6 : g16 l 2 ≤ (l.length : Int) := by omega
 have p7 : ((l.take (ihead l).toNat).drop 20).length ≤ 1000000000 := by rw [List.length_drop, List.length_take]; omega
 have p8 : ((l.take (g16 l 2).toNat).drop (ihead l).toNat).length ≤ 1000000000 := by rw [List.length_drop, List.length_take]; omega
 have p9 : (l.length : Int) ≥ 20 := by omega
 have m1 : ip_must.f (decide ((l.length : Int) ≥ 20)) 20 = some () := must_yes p9 20
 have m2 : ip_must.f (decide (g16 l 2 ≥ ihead l)) 21 = some () := must_yes o3 21
 have m3 : ip_must.f (decide ((l.length : Int) ≥ g16 l 2)) 20 = some () := must_yes p6 20
 have e2 := itwo_eq h 2 (by omega) hl
 have e4 := itwo_eq h 4 (by omega) hl
 have e6 := itwo_eq h 6 (by omega) hl
 have e12 := ifour_eq h 12 (by omega) hl
 have e16 := ifour_eq h 16 (by omega) hl
 rw [show ((2 : Nat) : Int) = 2 from rfl] at e2
 rw [show ((4 : Nat) : Int) = 4 from rfl] at e4
 rw [show ((6 : Nat) : Int) = 6 from rfl] at e6
 rw [show ((12 : Nat) : Int) = 12 from rfl] at e12
 rw [show ((16 : Nat) : Int) = 16 from rfl] at e16
 have r0 : rd l 0 = l.getD 0 0 := rd_nat l 0 0 rfl
 have r1 : rd l 1 = l.getD 1 0 := rd_nat l 1 1 rfl
 have r8 : rd l 8 = l.getD 8 0 := rd_nat l 8 8 rfl
 have r9 : rd l 9 = l.getD 9 0 := rd_nat l 9 9 rfl
 have w2 : wrap64 (g16 l 2) = g16 l 2 := wrap64_id (by omega) (by omega)
 have hd := ihead_eq h
 obtain ⟨a, fa, fb⟩ := fold_both (h.take (ihead l).toNat) (by rw [List.length_take]; omega) k (by rw [List.length_take]; omega)
 have fx : norm (isum (words (l.take (ihead l).toNat))) = 65535 := hx
 rw [fx] at fb
 have m22 : ip_must.f ((65535 : Int) == 65535) 22 = some () := by unfold ip_must.f; rw [if_pos (by decide)]
 have ef : g16 l 6 / 8192 % 256 = g16 l 6 / 8192 := by omega
 have ea : Go.bits .and .u16 (g16 l 6) 8191 = g16 l 6 % 8192 := and16 13 (by omega) hb6.1 hb6.2
 unfold ip_reader_packet.f
 rw [m1, Option.bind_some, if_pos p2, e2, Option.bind_some, hd, w2, r0, if_pos o1, if_pos o2, m2, Option.bind_some, ip_reader_packet.j0, m3, Option.bind_some, if_pos p0, if_pos p1, fa, Option.bind_some, fb, Option.bind_some, m22, Option.bind_some, e6, Option.bind_some, if_pos p3, e4, Option.bind_some, if_pos p4, if_pos p5, e12, Option.bind_some, e16, Option.bind_some, if_pos o2,
  iclone_eq _ p7, Option.bind_some, if_pos o3, if_pos p6, iclone_eq _ p8, Option.bind_some, r1, r8, r9, ef, ea]
 rfl
theorem iparse_eq {l : List Int} (h : IsB l) (hl : l.length ≤ 1000000000) (k : Nat) (hk : l.length + 5 < k) : ip_Parse.f k l = some (iseg l) := by
 have hh := ihead_range l
 have hg := g16_range h 2
 have hd := ihead_eq h
 have r0 : rd l 0 = l.getD 0 0 := rd_nat l 0 0 rfl
 unfold ip_Parse.f iseg
 by_cases c1 : l.length < 20
 ·rw [if_pos (by omega), if_pos c1]
 ·have e2 := itwo_eq h 2 (by omega) hl
  rw [show ((2 : Nat) : Int) = 2 from rfl] at e2
  have w2 : wrap64 (g16 l 2) = g16 l 2 := wrap64_id (by omega) (by omega)
  rw [if_neg (by omega), if_neg c1, e2, Option.bind_some, hd, w2, r0]
  by_cases c2 : iodd l
  ·rw [if_neg c2, if_pos c2]
  ·rw [if_pos (Decidable.not_not.mp c2), if_neg c2]
   by_cases c3 : (l.length : Int) < g16 l 2
   ·rw [if_pos c3, if_pos c3]
   ·rw [if_neg c3, if_neg c3]
    obtain ⟨a, fa, fb⟩ := fold_both (h.take (ihead l).toNat) (by rw [List.length_take]; omega) k (by rw [List.length_take]; omega)
    rw [fa, Option.bind_some, fb, Option.bind_some]
    by_cases c4 : isumof l = 65535
    ·have fx : norm (isum (words (l.take (ihead l).toNat))) = 65535 := c4
     rw [if_pos fx, if_neg (fun hne => hne c4), ipacket_eq h hl (by omega) c2 c3 c4 k hk, Option.bind_some]
     rfl
    ·have fx : ¬ norm (isum (words (l.take (ihead l).toNat))) = 65535 := c4
     rw [if_neg fx, if_pos c4]
end Go.Proofs.Ytkmimamminddiaa.Pure
/- Bytes of packets: what the proofs of the laws on packets share. -/
namespace Go.Proofs.Ytkmimamminddiaa.Pure
set_option linter.unusedVariables false
set_option linter.unusedSimpArgs false
open Go.RowKit Go.Proofs.Ytkmimamminddiaa.PB Go.Proofs.YtkmimamminddiaaW.PrintWords Go.Proofs.YtkmimamminddiaaW.PrintLast
open Go.Proofs.Ytkmimamminddiaa.Spec Go.Proofs.Ytkmimamminddiaa.BytesEq Go.Proofs.Ytkmimamminddiaa.SumEq
def ihd (a t pr i fl of_ s d : Int) (o l : List Int) (x : Int) : List Int := [64 + (20 + (o.length : Int)) / 4, a, (20 + (o.length : Int) + (l.length : Int)) / 256 % 256, (20 + (o.length : Int) + (l.length : Int)) % 256, i / 256 % 256, i % 256, (fl * 8192 + of_) / 256 % 256, (fl * 8192 + of_) % 256, t, pr, x / 256 % 256, x % 256, s / 16777216 % 256, s / 65536 % 256, s / 256 % 256, s % 256, d / 16777216 % 256, d / 65536 % 256, d / 256 % 256, d % 256]
theorem ihd_length (a t pr i fl of_ s d : Int) (o l : List Int) (x : Int) : (ihd a t pr i fl of_ s d o l x).length = 20 := rfl
def ick (a t pr i fl of_ s d : Int) (o l : List Int) : Int := ck (ihd a t pr i fl of_ s d o l 0 ++ o)
def ibytes (a t pr i fl of_ s d : Int) (o l : List Int) : List Int := ihd a t pr i fl of_ s d o l (ick a t pr i fl of_ s d o l) ++ o ++ l
def iwrong (fl of_ : Int) (o : List Int) : Prop := (o.length : Int) % 4 ≠ 0 ∨ (o.length : Int) > 40 ∨ fl > 7 ∨ of_ > 8191
instance (fl of_ : Int) (o : List Int) : Decidable (iwrong fl of_ o) := inferInstanceAs (Decidable (_ ∨ _))
def iout (a t pr i fl of_ s d : Int) (o l : List Int) : List Int × Int := if iwrong fl of_ o then ([], 21) else if 20 + (o.length : Int) + (l.length : Int) > 65535 then ([], 23) else (ibytes a t pr i fl of_ s d o l, 0)
section
variable {a t pr i fl of_ s d : Int} {o l : List Int}
theorem ihd_isB (ha : 0 ≤ a ∧ a ≤ 255) (ht : 0 ≤ t ∧ t ≤ 255) (hp : 0 ≤ pr ∧ pr ≤ 255) (ho : (o.length : Int) ≤ 40) (x : Int) : IsB (ihd a t pr i fl of_ s d o l x) := by
 unfold ihd
 repeat (first | exact .nil | refine .cons (by omega) ?_)
theorem ior (h4 : (o.length : Int) % 4 = 0) (h40 : (o.length : Int) ≤ 40) : Go.bits .or .u8 64 ((wrap64 (Int.tdiv (20 + (o.length : Int)) 4)) % 256) = 64 + (20 + (o.length : Int)) / 4 := by
 have e : (wrap64 (Int.tdiv (20 + (o.length : Int)) 4)) % 256 = (20 + (o.length : Int)) / 4 := by
  rw [Int.tdiv_eq_ediv_of_nonneg (by omega), wrap64_id (by omega) (by omega)]; omega
 rw [e]
 exact or_u8 6 (by omega) (by omega) (by omega) (by omega) (by omega) (by omega)
theorem ibits (hf : 0 ≤ fl ∧ fl ≤ 7) (ho : 0 ≤ of_ ∧ of_ ≤ 8191) : Go.bits .or .u16 (IntKind.u16.wrap ((IntKind.u16.wrap fl) * 8192)) of_ = fl * 8192 + of_ := by
 rw [u16w (n := fl) (by omega) (by omega), u16w (n := fl * 8192) (by omega) (by omega)]
 exact or_u16 13 (by omega) (by omega) (by omega) (by omega) (by omega) (by omega)
theorem put16_eq (l : List Int) (x : Int) (h : l.length ≤ 1000000000) : lychref1_Put16.f l x = some (l ++ [x / 256 % 256, x % 256]) := by
 unfold lychref1_Put16.f
 rw [Option.bind_some, if_pos (by simp; omega)]
theorem put32_eq (l : List Int) (x : Int) (h : l.length ≤ 1000000000) : lychref1_Put32.f l x = some (l ++ [x / 16777216 % 256, x / 65536 % 256, x / 256 % 256, x % 256]) := by
 unfold lychref1_Put32.f
 rw [Option.bind_some, if_pos (by simp; omega)]
theorem ribytes_fin (ha : 0 ≤ a ∧ a ≤ 255) (ht : 0 ≤ t ∧ t ≤ 255) (hp : 0 ≤ pr ∧ pr ≤ 255) (ho : IsB o) (h40 : (o.length : Int) ≤ 40) (hl : l.length ≤ 1000000000) (k : Nat) (hk : 100 ≤ k) {y : List Int} (hy : y = ihd a t pr i fl of_ s d o l 0 ++ o) :
  ((some (y : List Int)).bind fun y387 => ((lychref1_Of.f k y387).bind fun t390 => (if 10 < (y387.length : Int) then (if 11 < (y387.length : Int) then ((some ((y387.set (10 : Int).toNat ((t390 / 256) % 256)).set (11 : Int).toNat ((t390) % 256) : List Int)).bind fun y392 => (if y392.length + l.length < 140737488355328 then (some ((y392 ++ l), (0 : Int))) else (none))) else (none)) else (none)))) = some (ibytes a t pr i fl of_ s d o l, 0) := by
 subst hy
 have hn : (ihd a t pr i fl of_ s d o l 0 ++ o).length = 20 + o.length := by rw [List.length_append, ihd_length]
 have hset : ((ihd a t pr i fl of_ s d o l 0 ++ o).set (10 : Int).toNat (ick a t pr i fl of_ s d o l / 256 % 256)).set (11 : Int).toNat (ick a t pr i fl of_ s d o l % 256) = ihd a t pr i fl of_ s d o l (ick a t pr i fl of_ s d o l) ++ o := rfl
 have hof : lychref1_Of.f k (ihd a t pr i fl of_ s d o l 0 ++ o) = some (ick a t pr i fl of_ s d o l) := rof_eq _ ((ihd_isB ha ht hp h40 0).append ho) (by rw [hn]; omega) k (by rw [hn]; omega) (by omega)
 have hn2 : (ihd a t pr i fl of_ s d o l (ick a t pr i fl of_ s d o l) ++ o).length = 20 + o.length := by rw [List.length_append, ihd_length]
 rw [Option.bind_some, hof, Option.bind_some, if_pos (by rw [hn]; omega), if_pos (by rw [hn]; omega), Option.bind_some, hset, if_pos (by rw [hn2]; omega)]
 rfl
theorem ribytes_eq (ha : 0 ≤ a ∧ a ≤ 255) (ht : 0 ≤ t ∧ t ≤ 255) (hp : 0 ≤ pr ∧ pr ≤ 255) (hf : 0 ≤ fl) (hg : 0 ≤ of_) (ho : IsB o) (hol : o.length ≤ 1000000000) (hl : l.length ≤ 1000000000) (k : Nat) (hk : 200 ≤ k) : lychref1_IpBytes.f k a t pr i fl of_ s d o l = some (iout a t pr i fl of_ s d o l) := by
 obtain ⟨k, rfl⟩ : ∃ j, k = j + 1 := ⟨k - 1, by omega⟩
 have w1 : wrap64 (20 + (o.length : Int)) = 20 + (o.length : Int) := wrap64_id (by omega) (by omega)
 unfold lychref1_IpBytes.f
 by_cases cw : iwrong fl of_ o
 ·have hx : iout a t pr i fl of_ s d o l = ([], 21) := by unfold iout; rw [if_pos cw]
  rw [hx]
  by_cases c1 : (o.length : Int) % 4 = 0
  ·rw [if_pos c1]
   by_cases c2 : (o.length : Int) > 40
   ·rw [if_pos c2, lychref1_IpBytes.j0, if_pos rfl]
   ·rw [if_neg c2]
    by_cases c3 : fl > 7
    ·rw [if_pos c3, lychref1_IpBytes.j0, if_pos rfl]
    ·have c4 : of_ > 8191 := by unfold iwrong at cw; omega
     rw [if_neg c3, decide_eq_true c4, lychref1_IpBytes.j0, if_pos rfl]
  ·rw [if_neg c1, lychref1_IpBytes.j0, if_pos rfl]
 ·have cx : (o.length : Int) % 4 = 0 ∧ (o.length : Int) ≤ 40 ∧ fl ≤ 7 ∧ of_ ≤ 8191 := by unfold iwrong at cw; omega
  obtain ⟨x1, x2, x3, x4⟩ := cx
  have w2 : wrap64 (65535 - (20 + (o.length : Int))) = 65535 - (20 + (o.length : Int)) := wrap64_id (by omega) (by omega)
  rw [if_pos x1, if_neg (by omega), if_neg (by omega), decide_eq_false (by omega), lychref1_IpBytes.j0, if_neg (by decide), w1, w2]
  unfold iout
  rw [if_neg cw]
  by_cases c5 : 20 + (o.length : Int) + (l.length : Int) > 65535
  ·rw [if_pos (by omega), if_pos c5]
  ·rw [if_neg (by omega), if_neg c5]
   have w3 : IntKind.u16.wrap (wrap64 (20 + (o.length : Int) + (l.length : Int))) = 20 + (o.length : Int) + (l.length : Int) := by rw [wrap64_id (by omega) (by omega), u16w (by omega) (by omega)]
   rw [ior x1 x2, ibits ⟨hf, x3⟩ ⟨hg, x4⟩, w3]
   rw [put16_eq _ _ (by simp), Option.bind_some, put16_eq _ _ (by simp), Option.bind_some, put16_eq _ _ (by simp), Option.bind_some, Option.bind_some, if_pos (by simp), put32_eq _ _ (by simp), Option.bind_some, put32_eq _ _ (by simp), Option.bind_some, if_pos (by simp; omega)]
   exact ribytes_fin ha ht hp ho x2 hl k (by omega) (congrArg (· ++ o) rfl)
theorem ihd_sum (ha : 0 ≤ a ∧ a ≤ 255) (ht : 0 ≤ t ∧ t ≤ 255) (hp : 0 ≤ pr ∧ pr ≤ 255) (ho : IsB o) (h40 : (o.length : Int) ≤ 40) : norm (isum (words (ihd a t pr i fl of_ s d o l (ick a t pr i fl of_ s d o l) ++ o))) = 65535 := by
 have hB := (ihd_isB (i := i) (fl := fl) (of_ := of_) (s := s) (d := d) (l := l) ha ht hp h40 0).append ho
 have hr := ck_range _ hB
 have hS := isum_nonneg _ (words_isW _ hB)
 have hn : (ihd a t pr i fl of_ s d o l 0 ++ o).length = 20 + o.length := by rw [List.length_append, ihd_length]
 have hc := isum_change (ihd a t pr i fl of_ s d o l 0 ++ o) 5 (ick a t pr i fl of_ s d o l / 256 % 256) (ick a t pr i fl of_ s d o l % 256) (by rw [hn]; omega)
 have hset : ((ihd a t pr i fl of_ s d o l 0 ++ o).set (2 * 5) (ick a t pr i fl of_ s d o l / 256 % 256)).set (2 * 5 + 1) (ick a t pr i fl of_ s d o l % 256) = ihd a t pr i fl of_ s d o l (ick a t pr i fl of_ s d o l) ++ o := rfl
 have hw : wordAt (ihd a t pr i fl of_ s d o l 0 ++ o) 5 = 0 / 256 % 256 * 256 + 0 % 256 := rfl
 rw [hset, hw] at hc
 have hx : ick a t pr i fl of_ s d o l = 65535 - norm (isum (words (ihd a t pr i fl of_ s d o l 0 ++ o))) := rfl
 have hr' : 0 ≤ ick a t pr i fl of_ s d o l ∧ ick a t pr i fl of_ s d o l ≤ 65535 := hr
 have he : ick a t pr i fl of_ s d o l / 256 % 256 * 256 + ick a t pr i fl of_ s d o l % 256 = ick a t pr i fl of_ s d o l := by omega
 rw [hc, he, hx]
 have := stands hS
 rw [show isum (words (ihd a t pr i fl of_ s d o l 0 ++ o)) - (0 / 256 % 256 * 256 + 0 % 256) + (65535 - norm (isum (words (ihd a t pr i fl of_ s d o l 0 ++ o)))) = isum (words (ihd a t pr i fl of_ s d o l 0 ++ o)) + (65535 - norm (isum (words (ihd a t pr i fl of_ s d o l 0 ++ o)))) from by omega]
 exact this
theorem ihead_bytes (x : Int) (m : List Int) (h40 : (o.length : Int) ≤ 40) (h4 : (o.length : Int) % 4 = 0) : ihead (ihd a t pr i fl of_ s d o l x ++ m) = 20 + (o.length : Int) := by
 have e0 : (ihd a t pr i fl of_ s d o l x ++ m).getD 0 0 = 64 + (20 + (o.length : Int)) / 4 := rfl
 unfold ihead
 rw [e0]; omega
theorem g2_bytes (x : Int) (m : List Int) (hn : 20 + (o.length : Int) + (l.length : Int) ≤ 65535) : g16 (ihd a t pr i fl of_ s d o l x ++ m) 2 = 20 + (o.length : Int) + (l.length : Int) := by
 have e2 : g16 (ihd a t pr i fl of_ s d o l x ++ m) 2 = (20 + (o.length : Int) + (l.length : Int)) / 256 % 256 * 256 + (20 + (o.length : Int) + (l.length : Int)) % 256 := rfl
 rw [e2]; omega
theorem iseg_bytes (ha : 0 ≤ a ∧ a ≤ 255) (ht : 0 ≤ t ∧ t ≤ 255) (hp : 0 ≤ pr ∧ pr ≤ 255) (hi : 0 ≤ i ∧ i ≤ 65535) (hf : 0 ≤ fl ∧ fl ≤ 7) (hg : 0 ≤ of_ ∧ of_ ≤ 8191) (hs : 0 ≤ s ∧ s ≤ 4294967295) (hd : 0 ≤ d ∧ d ≤ 4294967295) (ho : IsB o) (h40 : (o.length : Int) ≤ 40) (h4 : (o.length : Int) % 4 = 0) (hn : 20 + (o.length : Int) + (l.length : Int) ≤ 65535) (m : List Int) :
  iseg (ibytes a t pr i fl of_ s d o l ++ m) = (a, t, pr, i, fl, of_, s, d, o, l, 0) := by
 obtain ⟨x, hx⟩ : ∃ x, x = ick a t pr i fl of_ s d o l := ⟨_, rfl⟩
 have hsum := ihd_sum (i := i) (fl := fl) (of_ := of_) (s := s) (d := d) (l := l) ha ht hp ho h40
 unfold ibytes
 rw [← hx] at hsum ⊢
 clear hx
 rw [List.append_assoc, List.append_assoc]
 have hH := ihd_length a t pr i fl of_ s d o l x
 have eh := ihead_bytes (a := a) (t := t) (pr := pr) (i := i) (fl := fl) (of_ := of_) (s := s) (d := d) (l := l) x (o ++ (l ++ m)) h40 h4
 have eg := g2_bytes (a := a) (t := t) (pr := pr) (i := i) (fl := fl) (of_ := of_) (s := s) (d := d) (o := o) (l := l) x (o ++ (l ++ m)) hn
 have e0 : (ihd a t pr i fl of_ s d o l x ++ (o ++ (l ++ m))).getD 0 0 = 64 + (20 + (o.length : Int)) / 4 := rfl
 have hL : (ihd a t pr i fl of_ s d o l x ++ (o ++ (l ++ m))).length = 20 + o.length + l.length + m.length := by rw [List.length_append, List.length_append, List.length_append, hH]; omega
 have t1 : (20 + (o.length : Int)).toNat = (ihd a t pr i fl of_ s d o l x).length + o.length := by rw [hH]; omega
 have t2 : (20 + (o.length : Int) + (l.length : Int)).toNat = (ihd a t pr i fl of_ s d o l x).length + (o.length + l.length) := by rw [hH]; omega
 have k1 : (ihd a t pr i fl of_ s d o l x ++ (o ++ (l ++ m))).take (20 + (o.length : Int)).toNat = ihd a t pr i fl of_ s d o l x ++ o := by
  rw [t1, List.take_append, List.take_of_length_le (by omega), Nat.add_sub_cancel_left, List.take_left]
 have k2 : (ihd a t pr i fl of_ s d o l x ++ (o ++ (l ++ m))).take (20 + (o.length : Int) + (l.length : Int)).toNat = ihd a t pr i fl of_ s d o l x ++ (o ++ l) := by
  rw [t2, List.take_append, List.take_of_length_le (by omega), Nat.add_sub_cancel_left, List.take_append, List.take_of_length_le (by omega), Nat.add_sub_cancel_left, List.take_left]
 have hso : isumof (ihd a t pr i fl of_ s d o l x ++ (o ++ (l ++ m))) = 65535 := by
  unfold isumof
  rw [eh, k1]
  exact hsum
 have hodd : ¬ iodd (ihd a t pr i fl of_ s d o l x ++ (o ++ (l ++ m))) := fun h => h ⟨by rw [e0]; omega, by rw [eh]; omega, by rw [eh, eg]; omega⟩
 unfold iseg
 rw [if_neg (by rw [hL]; omega), if_neg hodd, if_neg (by rw [hL, eg]; omega), if_neg (fun h => h hso), eh, eg, k1, k2]
 have d1 : (ihd a t pr i fl of_ s d o l x ++ o).drop 20 = o := List.drop_left' hH
 have d2 : (ihd a t pr i fl of_ s d o l x ++ (o ++ l)).drop (20 + (o.length : Int)).toNat = l := by
  rw [t1, ← List.append_assoc, List.drop_left' (by rw [List.length_append])]
 rw [d1, d2]
 have b1 : (ihd a t pr i fl of_ s d o l x ++ (o ++ (l ++ m))).getD 1 0 = a := rfl
 have b8 : (ihd a t pr i fl of_ s d o l x ++ (o ++ (l ++ m))).getD 8 0 = t := rfl
 have b9 : (ihd a t pr i fl of_ s d o l x ++ (o ++ (l ++ m))).getD 9 0 = pr := rfl
 have b4 : g16 (ihd a t pr i fl of_ s d o l x ++ (o ++ (l ++ m))) 4 = i / 256 % 256 * 256 + i % 256 := rfl
 have b6 : g16 (ihd a t pr i fl of_ s d o l x ++ (o ++ (l ++ m))) 6 = (fl * 8192 + of_) / 256 % 256 * 256 + (fl * 8192 + of_) % 256 := rfl
 have b12 : g32 (ihd a t pr i fl of_ s d o l x ++ (o ++ (l ++ m))) 12 = (s / 16777216 % 256 * 256 + s / 65536 % 256) * 65536 + (s / 256 % 256 * 256 + s % 256) := rfl
 have b16 : g32 (ihd a t pr i fl of_ s d o l x ++ (o ++ (l ++ m))) 16 = (d / 16777216 % 256 * 256 + d / 65536 % 256) * 65536 + (d / 256 % 256 * 256 + d % 256) := rfl
 rw [b1, b8, b9, b4, b6, b12, b16]
 simp only [Prod.mk.injEq, and_true, true_and]
 refine ⟨?_, ?_, ?_, ?_, ?_⟩ <;> omega
theorem ibytes_isB (ha : 0 ≤ a ∧ a ≤ 255) (ht : 0 ≤ t ∧ t ≤ 255) (hp : 0 ≤ pr ∧ pr ≤ 255) (ho : IsB o) (hl : IsB l) (h40 : (o.length : Int) ≤ 40) : IsB (ibytes a t pr i fl of_ s d o l) := ((ihd_isB ha ht hp h40 _).append ho).append hl
theorem ibytes_length : (ibytes a t pr i fl of_ s d o l).length = 20 + o.length + l.length := by
 unfold ibytes
 rw [List.length_append, List.length_append, ihd_length]
end
end Go.Proofs.Ytkmimamminddiaa.Pure
/- Plain: a packet of few numbers: its bytes. -/
namespace Go.Proofs.Ytkmimamminddiaa.Pure
set_option linter.unusedVariables false
set_option linter.unusedSimpArgs false
open Go.RowKit Go.Proofs.Ytkmimamminddiaa.PB Go.Proofs.YtkmimamminddiaaW.PrintWords Go.Proofs.YtkmimamminddiaaW.PrintLast
open Go.Proofs.Ytkmimamminddiaa.Spec Go.Proofs.Ytkmimamminddiaa.BytesEq
def U32 (x : Int) : Prop := 0 ≤ x ∧ x ≤ 4294967295
def U16 (x : Int) : Prop := 0 ≤ x ∧ x ≤ 65535
def U8 (x : Int) : Prop := 0 ≤ x ∧ x ≤ 255
end Go.Proofs.Ytkmimamminddiaa.Pure
namespace Go.Proofs.Ytkmimamminddiaa.PB
open Go.RowKit Go.Proofs.YtkmimamminddiaaW.PrintWords Go.Proofs.YtkmimamminddiaaW.PrintLast Go.Proofs.YtkmimamminddiaaW.PrintMore
attribute [local go_sem] max2_int min2_int max_two min_two max_three min_three max_four min_four   -- for this text's walks alone
set_option linter.unusedVariables false
set_option linter.unusedSimpArgs false
end Go.Proofs.Ytkmimamminddiaa.PB
/- EthReads, EthOnce, EthBounds, EthBack: the plain statements: for all frames the printed laws return true. -/
namespace Go.Proofs.Ytkmimamminddiaa.Pure
set_option linter.unusedVariables false
set_option linter.unusedSimpArgs false
open Go.RowKit Go.Proofs.Ytkmimamminddiaa.PB Go.Proofs.YtkmimamminddiaaW.PrintWords Go.Proofs.YtkmimamminddiaaW.PrintLast
open Go.Proofs.Ytkmimamminddiaa.Spec Go.Proofs.Ytkmimamminddiaa.BytesEq
theorem w12 : wrap64 (1 + 1) = 2 := wrap64_id (by omega) (by omega)
theorem w34 : wrap64 (3 + 1) = 4 := wrap64_id (by omega) (by omega)
section
end
end Go.Proofs.Ytkmimamminddiaa.Pure
namespace Go.Proofs.Ytkmimamminddiaa.PB
open Go.RowKit Go.Proofs.YtkmimamminddiaaW.PrintWords Go.Proofs.YtkmimamminddiaaW.PrintLast Go.Proofs.YtkmimamminddiaaW.PrintMore
attribute [local go_sem] max2_int min2_int max_two min_two max_three min_three max_four min_four   -- for this text's walks alone
set_option linter.unusedVariables false
set_option linter.unusedSimpArgs false
end Go.Proofs.Ytkmimamminddiaa.PB
/- VxlanReads, VxlanBits, VxlanBack, VxlanBounds, the plain statements: for all bytes, networks and lengths the printed laws return true. -/
namespace Go.Proofs.Ytkmimamminddiaa.Pure
set_option linter.unusedVariables false
set_option linter.unusedSimpArgs false
open Go.RowKit Go.Proofs.Ytkmimamminddiaa.PB Go.Proofs.YtkmimamminddiaaW.PrintWords Go.Proofs.YtkmimamminddiaaW.PrintLast
open Go.Proofs.Ytkmimamminddiaa.Spec Go.Proofs.Ytkmimamminddiaa.BytesEq
end Go.Proofs.Ytkmimamminddiaa.Pure
/- Plain: what is read out of bytes lies in its bounds. -/
namespace Go.Proofs.Ytkmimamminddiaa.Pure
set_option linter.unusedVariables false
set_option linter.unusedSimpArgs false
open Go.RowKit Go.Proofs.Ytkmimamminddiaa.PB Go.Proofs.YtkmimamminddiaaW.PrintWords Go.Proofs.YtkmimamminddiaaW.PrintLast
open Go.Proofs.Ytkmimamminddiaa.Spec Go.Proofs.Ytkmimamminddiaa.BytesEq
theorem u8_0 : U8 0 := by unfold U8; omega
theorem u16_0 : U16 0 := by unfold U16; omega
theorem u32_0 : U32 0 := by unfold U32; omega
theorem iseg_is {l : List Int} (h : IsB l) : ∃ a t pr i fl of_ s d o b e, iseg l = (a, t, pr, i, fl, of_, s, d, o, b, e) ∧ U8 a ∧ U8 t ∧ U8 pr ∧ U16 i ∧ (0 ≤ fl ∧ fl ≤ 7) ∧ (0 ≤ of_ ∧ of_ ≤ 8191) ∧ U32 s ∧ U32 d ∧ IsB o ∧ (o.length : Int) % 4 = 0 ∧ (o.length : Int) ≤ 40 ∧ IsB b ∧ b.length ≤ l.length := by
 have hn : ∀ e : Int, ∃ a t pr i fl of_ s d o b e', ((0 : Int), (0 : Int), (0 : Int), (0 : Int), (0 : Int), (0 : Int), (0 : Int), (0 : Int), ([] : List Int), ([] : List Int), e) = (a, t, pr, i, fl, of_, s, d, o, b, e') ∧ U8 a ∧ U8 t ∧ U8 pr ∧ U16 i ∧ (0 ≤ fl ∧ fl ≤ 7) ∧ (0 ≤ of_ ∧ of_ ≤ 8191) ∧ U32 s ∧ U32 d ∧ IsB o ∧ (o.length : Int) % 4 = 0 ∧ (o.length : Int) ≤ 40 ∧ IsB b ∧ b.length ≤ l.length := fun e =>
  ⟨0, 0, 0, 0, 0, 0, 0, 0, [], [], e, rfl, u8_0, u8_0, u8_0, u16_0, by omega, by omega, u32_0, u32_0, .nil, rfl, by decide, .nil, Nat.zero_le _⟩
 have hh := ihead_range l
 have h4 : ihead l % 4 = 0 := by unfold ihead; omega
 have h6 := g16_range h 6
 unfold iseg
 by_cases c1 : l.length < 20
 ·rw [if_pos c1]; exact hn _
 ·rw [if_neg c1]
  by_cases c2 : iodd l
  ·rw [if_pos c2]; exact hn _
  ·rw [if_neg c2]
   by_cases c3 : (l.length : Int) < g16 l 2
   ·rw [if_pos c3]; exact hn _
   ·rw [if_neg c3]
    by_cases c4 : isumof l ≠ 65535
    ·rw [if_pos c4]; exact hn _
    ·rw [if_neg c4]
     have c5 : l.getD 0 0 / 16 = 4 ∧ ihead l ≥ 20 ∧ g16 l 2 ≥ ihead l := by
      unfold iodd at c2
      exact Decidable.not_not.1 c2
     have ho : (((l.take (ihead l).toNat).drop 20).length : Int) = ihead l - 20 := by
      rw [List.length_drop, List.length_take]
      omega
     refine ⟨_, _, _, _, _, _, _, _, _, _, _, rfl, h.getD _, h.getD _, h.getD _, g16_range h 4, ⟨by omega, by omega⟩, ⟨by omega, by omega⟩, g32_range h 12, g32_range h 16, (h.take _).drop _, by omega, by omega, (h.take _).drop _, ?_⟩
     rw [List.length_drop, List.length_take]
     omega
end Go.Proofs.Ytkmimamminddiaa.Pure
namespace Go.Proofs.Ytkmimamminddiaa.PB
open Go.RowKit Go.Proofs.YtkmimamminddiaaW.PrintWords Go.Proofs.YtkmimamminddiaaW.PrintLast Go.Proofs.YtkmimamminddiaaW.PrintMore
attribute [local go_sem] max2_int min2_int max_two min_two max_three min_three max_four min_four   -- for this text's walks alone
set_option linter.unusedVariables false
set_option linter.unusedSimpArgs false
end Go.Proofs.Ytkmimamminddiaa.PB
/- Plain: the packet that stands within an error: its points, told by the program and by the reference. -/
namespace Go.Proofs.Ytkmimamminddiaa.Pure
set_option linter.unusedVariables false
set_option linter.unusedSimpArgs false
open Go.RowKit Go.Proofs.Ytkmimamminddiaa.PB Go.Proofs.YtkmimamminddiaaW.PrintWords Go.Proofs.YtkmimamminddiaaW.PrintLast
open Go.Proofs.Ytkmimamminddiaa.Spec Go.Proofs.Ytkmimamminddiaa.BytesEq
theorem two_at {b : List Int} (h : IsB b) (i : Nat) (hi : i + 2 ≤ b.length) : rewrite_two.f (b.drop i) = some (g16 b i) := by
 have hl : (b.drop i).length = b.length - i := List.length_drop
 unfold rewrite_two.f
 rw [if_pos (by omega), if_pos (by omega)]
 have e0 : rd (b.drop i) 0 = b.getD i 0 := by
  rw [rd_nat _ 0 0 rfl]
  simp [List.getD_eq_getElem?_getD]
 have e1 : rd (b.drop i) 1 = b.getD (i + 1) 0 := by
  rw [rd_nat _ 1 1 rfl]
  simp [List.getD_eq_getElem?_getD]
 rw [e0, e1, word16 (h.getD i) (h.getD (i + 1))]
 rfl
end Go.Proofs.Ytkmimamminddiaa.Pure
/- lychref8.Hop. -/
namespace Go.Proofs.Ytkmimamminddiaa.PB
open Go.RowKit Go.Proofs.YtkmimamminddiaaW.PrintWords Go.Proofs.YtkmimamminddiaaW.PrintLast Go.Proofs.YtkmimamminddiaaW.PrintMore
set_option linter.unusedVariables false
set_option linter.unusedSimpArgs false
end Go.Proofs.Ytkmimamminddiaa.PB
/- Plain: a packet that was read is its parts written anew; one hop less. -/
namespace Go.Proofs.Ytkmimamminddiaa.Pure
set_option linter.unusedVariables false
set_option linter.unusedSimpArgs false
open Go.RowKit Go.Proofs.Ytkmimamminddiaa.PB Go.Proofs.YtkmimamminddiaaW.PrintWords Go.Proofs.YtkmimamminddiaaW.PrintLast
open Go.Proofs.Ytkmimamminddiaa.Spec Go.Proofs.Ytkmimamminddiaa.BytesEq
theorem take_range (l : List Int) (n : Nat) (h : n ≤ l.length) : l.take n = (List.range n).map (fun j => l.getD j 0) := by
 apply List.ext_getElem?
 intro j
 by_cases hj : j < n
 ·rw [List.getElem?_take, if_pos hj, List.getElem?_map, List.getElem?_range hj, Option.map_some, List.getD_eq_getElem?_getD, List.getElem?_eq_getElem (by omega)]
  rfl
 ·rw [List.getElem?_eq_none (by rw [List.length_take]; omega), List.getElem?_eq_none (by rw [List.length_map, List.length_range]; omega)]
theorem iseg_inv {l : List Int} (h : IsB l) {a t pr i fl of_ s d : Int} {o b : List Int} (e : iseg l = (a, t, pr, i, fl, of_, s, d, o, b, 0)) :
  l.take (g16 l 2).toNat = ihd a t pr i fl of_ s d o b (g16 l 10) ++ o ++ b ∧ 20 ≤ l.length ∧ g16 l 2 = 20 + (o.length : Int) + (b.length : Int) ∧ g16 l 2 ≤ (l.length : Int) ∧ ihead l = 20 + (o.length : Int) ∧ isumof l = 65535 := by
 unfold iseg at e
 by_cases c1 : l.length < 20
 ·rw [if_pos c1] at e; simp at e
 ·rw [if_neg c1] at e
  by_cases c2 : iodd l
  ·rw [if_pos c2] at e; simp at e
  ·rw [if_neg c2] at e
   by_cases c3 : (l.length : Int) < g16 l 2
   ·rw [if_pos c3] at e; simp at e
   ·rw [if_neg c3] at e
    by_cases c4 : isumof l ≠ 65535
    ·rw [if_pos c4] at e; simp at e
    ·rw [if_neg c4] at e
     have c4' : isumof l = 65535 := Decidable.not_not.1 c4
     have c5 : l.getD 0 0 / 16 = 4 ∧ ihead l ≥ 20 ∧ g16 l 2 ≥ ihead l := by
      unfold iodd at c2
      exact Decidable.not_not.1 c2
     simp only [Prod.mk.injEq, and_true] at e
     obtain ⟨ea, et, ep, ei, ef, eo, es, ed, eop, eb⟩ := e
     have hh := ihead_range l
     have hg := g16_range h 2
     have ho : (o.length : Int) = ihead l - 20 := by
      rw [← eop, List.length_drop, List.length_take]
      omega
     have hb : (b.length : Int) = g16 l 2 - ihead l := by
      rw [← eb, List.length_drop, List.length_take]
      omega
     refine ⟨?_, by omega, by omega, by omega, by omega, c4'⟩
     have t1 : l.take (g16 l 2).toNat = l.take (ihead l).toNat ++ b := by
      rw [← eb]
      conv => lhs; rw [← List.take_append_drop (ihead l).toNat (l.take (g16 l 2).toNat)]
      rw [List.take_take, Nat.min_eq_left (by omega)]
     have t2 : l.take (ihead l).toNat = l.take 20 ++ o := by
      rw [← eop]
      conv => lhs; rw [← List.take_append_drop 20 (l.take (ihead l).toNat)]
      rw [List.take_take, Nat.min_eq_left (by omega)]
     rw [t1, t2, take_range l 20 (by omega)]
     congr 2
     have hx : ∀ j, 0 ≤ l.getD j 0 ∧ l.getD j 0 ≤ 255 := h.getD
     unfold ihd
     have u0 : l.getD 0 0 = 64 + (20 + (o.length : Int)) / 4 := by
      have := hx 0
      have h1 : ihead l = 4 * (l.getD 0 0 % 16) := rfl
      omega
     have u2 : l.getD 2 0 = (20 + (o.length : Int) + (b.length : Int)) / 256 % 256 := by
      have h1 : g16 l 2 = l.getD 2 0 * 256 + l.getD 3 0 := rfl
      have := hx 2; have := hx 3
      omega
     have u3 : l.getD 3 0 = (20 + (o.length : Int) + (b.length : Int)) % 256 := by
      have h1 : g16 l 2 = l.getD 2 0 * 256 + l.getD 3 0 := rfl
      have := hx 2; have := hx 3
      omega
     have w16 : ∀ j n, g16 l j = n → l.getD j 0 = n / 256 % 256 ∧ l.getD (j + 1) 0 = n % 256 := fun j n hn => by
      have h1 : g16 l j = l.getD j 0 * 256 + l.getD (j + 1) 0 := rfl
      have := hx j; have := hx (j + 1)
      omega
     have w32 : ∀ j n, g32 l j = n → l.getD j 0 = n / 16777216 % 256 ∧ l.getD (j + 1) 0 = n / 65536 % 256 ∧ l.getD (j + 2) 0 = n / 256 % 256 ∧ l.getD (j + 3) 0 = n % 256 := fun j n hn => by
      have h1 : g32 l j = (l.getD j 0 * 256 + l.getD (j + 1) 0) * 65536 + (l.getD (j + 2) 0 * 256 + l.getD (j + 2 + 1) 0) := rfl
      have := hx j; have := hx (j + 1); have := hx (j + 2); have := hx (j + 3)
      have e3 : l.getD (j + 2 + 1) 0 = l.getD (j + 3) 0 := rfl
      omega
     have u4 := w16 4 i ei
     have u6 := w16 6 (fl * 8192 + of_) (by have := g16_range h 6; omega)
     have u10 := w16 10 _ rfl
     have u12 := w32 12 s es
     have u16 := w32 16 d ed
     have hr : (List.range 20).map (fun j => l.getD j 0) = [l.getD 0 0, l.getD 1 0, l.getD 2 0, l.getD 3 0, l.getD 4 0, l.getD 5 0, l.getD 6 0, l.getD 7 0, l.getD 8 0, l.getD 9 0, l.getD 10 0, l.getD 11 0, l.getD 12 0, l.getD 13 0, l.getD 14 0, l.getD 15 0, l.getD 16 0, l.getD 17 0, l.getD 18 0, l.getD 19 0] := rfl
     rw [hr, ea, et, ep, u0, u2, u3, u4.1, show l.getD 5 0 = i % 256 from u4.2, u6.1, show l.getD 7 0 = (fl * 8192 + of_) % 256 from u6.2, u10.1, show l.getD 11 0 = g16 l 10 % 256 from u10.2, u12.1, show l.getD 13 0 = s / 65536 % 256 from u12.2.1, show l.getD 14 0 = s / 256 % 256 from u12.2.2.1, show l.getD 15 0 = s % 256 from u12.2.2.2, u16.1, show l.getD 17 0 = d / 65536 % 256 from u16.2.1, show l.getD 18 0 = d / 256 % 256 from u16.2.2.1, show l.getD 19 0 = d % 256 from u16.2.2.2]
theorem own_eq {l : List Int} (h : IsB l) (h20 : 20 ≤ l.length) (hg : g16 l 2 ≤ (l.length : Int)) : rewrite_own.f l = some (l.take (g16 l 2).toNat, ihead l) := by
 have hr := g16_range h 2
 unfold rewrite_own.f
 rw [if_pos (by omega), two_at h 2 (by omega), Option.bind_some, if_pos hr.1, if_pos hg, clone_eq _ (by rw [List.length_take]; omega), Option.bind_some, if_pos (by omega), ihead_eq h]
def hopS (l : List Int) : List Int × Int :=
 match iseg l with
 | (a, t, pr, i, fl, of_, s, d, o, b, e) => if e = 0 then (if t = 0 then ([], 21) else (ibytes a (t - 1) pr i fl of_ s d o b, 0)) else ([], e)
theorem headed_ibytes {a t pr i fl of_ s d c : Int} {o b : List Int} (ha : U8 a) (ht : U8 t) (hp : U8 pr) (ho : IsB o) (h40 : (o.length : Int) ≤ 40) (K : Nat) (hK : 200 ≤ K) (n : Nat) (hn : n = 20 + o.length) : headed.f K (ihd a t pr i fl of_ s d o b c ++ o ++ b) n = some (ibytes a t pr i fl of_ s d o b) := by
 subst hn
 have e1 : put2L (ihd a t pr i fl of_ s d o b c ++ o ++ b) 10 0 = ihd a t pr i fl of_ s d o b 0 ++ o ++ b := rfl
 have hl : (ihd a t pr i fl of_ s d o b 0 ++ o).length = 20 + o.length := by rw [List.length_append, ihd_length]
 have e2 : (ihd a t pr i fl of_ s d o b 0 ++ o ++ b).take (20 + o.length) = ihd a t pr i fl of_ s d o b 0 ++ o := List.take_left' hl
 unfold headed.f
 rw [e1, e2, SumEq.of_eq _ ((ihd_isB ha ht hp h40 0).append ho) (by rw [hl]; omega) K (by rw [hl]; omega) (by omega), Option.bind_some]
 rfl
theorem hop_eq {l : List Int} (h : IsB l) (hl : l.length ≤ 3000) (K : Nat) (hK : 4000 ≤ K) : rewrite_Hop.f K l = some (hopS l) := by
 obtain ⟨a, t, pr, i, fl, of_, s, d, o, b, e, ei, ha, ht, hp, hi, hf, hg, hs, hd, ho, h4, h40, hb, hbl⟩ := iseg_is h
 unfold rewrite_Hop.f hopS
 rw [iparse_eq h (by omega) K (by omega), ei, Option.bind_some]
 dsimp only
 by_cases he : e = 0
 ·subst he
  rw [if_pos rfl, if_pos rfl]
  obtain ⟨i1, i2, i3, i4, i5, i6⟩ := iseg_inv h ei
  by_cases h0 : t = 0
  ·rw [if_pos h0, if_pos h0]
  ·rw [if_neg h0, if_neg h0, own_eq h i2 i4, Option.bind_some, i1, i5]
   dsimp only
   have hln : (ihd a t pr i fl of_ s d o b (g16 l 10) ++ o ++ b).length = 20 + o.length + b.length := by rw [List.length_append, List.length_append, ihd_length]
   unfold U8 at ht
   have e8 : rd (ihd a t pr i fl of_ s d o b (g16 l 10) ++ o ++ b) 8 = t := rfl
   have es : (ihd a t pr i fl of_ s d o b (g16 l 10) ++ o ++ b).set 8 ((t - 1) % 256) = ihd a ((t - 1) % 256) pr i fl of_ s d o b (g16 l 10) ++ o ++ b := rfl
   rw [if_pos ⟨by rw [hln]; omega, by omega, by rw [hln]; omega⟩, e8, es, headed_ibytes ha (by unfold U8; omega) hp ho h40 K (by omega) _ (by omega), Option.bind_some, show (t - 1) % 256 = t - 1 from by omega]
 ·rw [if_neg he, if_neg he]
end Go.Proofs.Ytkmimamminddiaa.Pure
/- Packets of no body and their hops. -/
namespace Go.Proofs.Ytkmimamminddiaa.PB
open Go.RowKit Go.Proofs.YtkmimamminddiaaW.PrintWords Go.Proofs.YtkmimamminddiaaW.PrintLast Go.Proofs.YtkmimamminddiaaW.PrintMore
set_option linter.unusedVariables false
set_option linter.unusedSimpArgs false
open Go.Proofs.Ytkmimamminddiaa.Spec Go.Proofs.Ytkmimamminddiaa.BytesEq
def hb8 (t pr : Int) : List Int := Pure.ibytes 0 t pr 0 0 0 1 2 [] []
theorem hb8_isB {t pr : Int} (ht : 0 ≤ t ∧ t ≤ 255) (hp : 0 ≤ pr ∧ pr ≤ 255) : IsB (hb8 t pr) := Pure.ibytes_isB (by omega) ht hp .nil .nil (by decide)
theorem hb8_len (t pr : Int) : (hb8 t pr).length = 20 := Pure.ibytes_length
theorem hb8_seg {t pr : Int} (ht : 0 ≤ t ∧ t ≤ 255) (hp : 0 ≤ pr ∧ pr ≤ 255) : Pure.iseg (hb8 t pr) = (0, t, pr, 0, 0, 0, 1, 2, [], [], 0) := by
 have h := Pure.iseg_bytes (a := 0) (t := t) (pr := pr) (i := 0) (fl := 0) (of_ := 0) (s := 1) (d := 2) (o := []) (l := []) (by omega) ht hp (by omega) (by omega) (by omega) (by omega) (by omega) .nil (by decide) (by decide) (by decide) []
 rwa [List.append_nil] at h
theorem hb8_hop {t pr : Int} (ht : 0 ≤ t ∧ t ≤ 255) (hp : 0 ≤ pr ∧ pr ≤ 255) (h0 : 0 < t) : rewrite_Hop.f 4000 (hb8 t pr) = some (hb8 (t - 1) pr, 0) := by
 rw [Pure.hop_eq (hb8_isB ht hp) (by rw [hb8_len]; omega) 4000 (Nat.le_refl _)]
 unfold Pure.hopS
 rw [hb8_seg ht hp]
 dsimp only
 rw [if_pos rfl, if_neg (by omega)]
 rfl
theorem hb8_last {pr : Int} (hp : 0 ≤ pr ∧ pr ≤ 255) : rewrite_Hop.f 4000 (hb8 0 pr) = some ([], 21) := by
 rw [Pure.hop_eq (hb8_isB (by omega) hp) (by rw [hb8_len]; omega) 4000 (Nat.le_refl _)]
 unfold Pure.hopS
 rw [hb8_seg (by omega) hp]
 dsimp only
 rw [if_pos rfl, if_pos rfl]
theorem hb8_out {t pr : Int} (ht : 0 ≤ t ∧ t ≤ 255) (hp : 0 ≤ pr ∧ pr ≤ 255) : lychref1_IpBytes.f 4000 0 t pr 0 0 0 1 2 [] [] = some (hb8 t pr, 0) := by
 rw [Pure.ribytes_eq (by omega) ht hp (by omega) (by omega) .nil (by decide) (by decide) 4000 (by omega)]
 unfold Pure.iout
 rw [if_neg (by unfold Pure.iwrong; decide), if_neg (by decide)]
 rfl
end Go.Proofs.Ytkmimamminddiaa.PB
/- RewriteHopsOut: its walk. -/
namespace Go.Proofs.Ytkmimamminddiaa.PB
open Go.RowKit Go.Proofs.YtkmimamminddiaaW.PrintWords Go.Proofs.YtkmimamminddiaaW.PrintLast Go.Proofs.YtkmimamminddiaaW.PrintMore
set_option linter.unusedVariables false
set_option linter.unusedSimpArgs false
open Go.Proofs.Ytkmimamminddiaa.Spec Go.Proofs.Ytkmimamminddiaa.BytesEq
def hopsOut.R8.T : Bool × List (List Nat × List Nat) := (true, [([], []), ([0], [0]), ([1], [1]), ([2], [2]), ([3, 2], [2, 3]), ([4, 2], [2, 4]), ([2, 5], [2, 5]), ([6, 2], [6]), ([7], [7]), ([8, 7], [7, 8]), ([9, 7], [7, 9]), ([7], [7]), ([11, 7], [7, 11]), ([12, 7], [7, 12]), ([13, 7], [7, 13]), ([10, 14, 7], [7, 10, 14]), ([7, 15], [7, 15])])
theorem hopsOut.R8.tab : rtab .any (opsOf Try.f11 8) = hopsOut.R8.T := by kernel_rfl
theorem hopsOut.R8.bits : waitsOk hopsOut.R8.T.2 [0, 1, 3, 7, 15, 31, 63, 127, 255, 511, 1023, 255, 2303, 6399, 14591, 32767, 65535] = true := by kernel_rfl
theorem rewriteHopsOut.calls (ttl pr : Int) (w : World) (ht : 0 ≤ ttl ∧ ttl ≤ 255) (hpr : 0 ≤ pr ∧ pr ≤ 255) :
  Calls Try.prog 11 #[.int .u8 ttl, .int .u8 pr] w fun e w' => e = .returned (.bool true) ∧ Below w.heap.size w w' := by
 have HB := Aside0.mk (Below.refl w.heap.size w)
 obtain ⟨T, hT⟩ : ∃ T, ttl.tmod 40 = T := ⟨_, rfl⟩
 have hT0 : 0 ≤ ttl.tmod 40 := Int.tmod_nonneg _ ht.1
 have hT1 : ttl.tmod 40 < 40 := Int.tmod_lt_of_pos _ (by decide)
 rw [hT] at hT0 hT1
 obtain ⟨m, hm⟩ : ∃ m : Nat, (m : Int) = T := ⟨T.toNat, Int.toNat_of_nonneg hT0⟩
 have HTT : Aside0 (0 ≤ T ∧ T < 40) := ⟨hT0, hT1⟩
 have HTM := Aside0.mk hm
 have HPR := Aside0.mk hpr
 have HO := Aside0.mk (hb8_out (t := T) (pr := pr) (by omega) hpr)
 have wT : wrap64 T = T := by unfold wrap64; omega
 clear hT0 hT1 hm ht hpr
 go_enter Try.func11, Try.ntmps11
 go_wp2_with fail
 refine (known8.calls _).mono ?_
 rintro ev w1 ⟨rfl, hb⟩
 have hb_ := hb
 have n_HB := Aside0.mk (below_step HB.out hb_)
 clear HB hb_
 have HB := n_HB
 clear n_HB
 clear hb
 (try dsimp only)
 go_wp2_with fail
 refine (lychref1_IpBytes.calls 4000 0 T pr 0 0 0 1 2 none 0 [] none 0 [] (hb8 T pr) 0 _ (Kd.C_nil _ _) (Nat.le_refl _) (Kd.C_nil _ _) (Nat.le_refl _) HO.out).mono ?_
 rintro ev w2 ⟨v_, rfl, ho, hb⟩
 have HRb := Aside0.mk (Kd.R_lower ho (below_size HB.out))
 obtain ⟨Ab, cb, rfl, _, _⟩ := Kd.R_reads ho
 clear ho HO
 have hb_ := hb
 have n_HB := Aside0.mk (below_step HB.out hb_)
 clear HB hb_
 have HB := n_HB
 clear n_HB
 clear hb
 (try dsimp only)
 go_wp2_with fail
 go_loopg [5, 7] m (fun kq v5 v7 w' => ∃ (j : Nat) (A : Option Addr) (cc : Nat) (y : List Int), v5 = .slice A y.length cc ∧ v7 = .int .i64 (j : Int) ∧ Aside0 (kq + j = m ∧ j ≤ m ∧ y = hb8 (T - (j : Int)) pr) ∧ Aside0 (Kd.R (Kd.int .u8) 5 w' w.heap.size (fun _ => True) (.slice A y.length cc) y) ∧ Aside0 (Below w.heap.size w w'))
 case atStart => exact ⟨0, Ab, cb, hb8 T pr, rfl, rfl, ⟨rfl, Nat.zero_le _, by rw [show T - ((0 : Nat) : Int) = T from by omega]⟩, HRb, HB⟩
 case round =>
  clear HRb HB
  obtain ⟨j, A, cc, y, rfl, rfl, HJ, HRb, HB⟩ := hrel
  by_cases c6 : (j : Int) < T
  ·have c6b : decide ((j : Int) < T) = true := decide_eq_true c6
   have HC6 := Aside0.mk c6
   clear c6
   have hyl : y.length = 20 := by rw [HJ.out.2.2]; exact hb8_len _ _
   obtain ⟨gb, cap, hv, hgb, _, _⟩ := Kd.R_form HRb.out (by omega)
   obtain ⟨hq1, hq3⟩ : A = some ⟨gb, 0, none⟩ ∧ cc = cap := by injection hv with h1 h2 h3; exact ⟨h1, h3⟩
   subst hq1 hq3
   have HHP : Aside0 (rewrite_Hop.f 4000 y = some (hb8 (T - (j : Int) - 1) pr, 0)) := ⟨by rw [HJ.out.2.2]; exact hb8_hop (by have := HC6.out; have := HTT.out; omega) HPR.out (by have := HC6.out; omega)⟩
   obtain ⟨z, hz⟩ : ∃ z, z = hb8 (T - (j : Int) - 1) pr := ⟨_, rfl⟩
   rw [← hz] at HHP
   have hzl : z.length = 20 := by rw [hz]; exact hb8_len _ _
   obtain ⟨u, hu⟩ : ∃ u, u = T - (j : Int) := ⟨_, rfl⟩
   obtain ⟨v, hv2⟩ : ∃ v, v = T - (j : Int) - 1 := ⟨_, rfl⟩
   have HUV : Aside0 ((u - 1) % 256 = v) := ⟨by have := HC6.out; have := HTT.out; omega⟩
   have HSb : Aside0 (wr.cell? ⟨gb, 8, none⟩ = some (.int .u8 u)) := ⟨by have h8 := (Kd.R_celln (0 : Int) HRb.out ((8 : Nat) : Int) (by omega) (by omega)).1; rw [Int.toNat_natCast] at h8; rw [h8, HJ.out.2.2, hu]; rfl⟩
   have HZ := Aside0.mk hz
   have HV2 := Aside0.mk hv2
   have HYL := Aside0.mk hyl
   have HZL := Aside0.mk hzl
   have HGBL := Aside0.mk (World.block_lt_of_cell? _ _ HSb.out)
   clear hv hgb hz hyl hzl hu hv2
   go_wp2_with fail
   clear c6b
   refine (rewrite_Hop.calls 4000 (some ⟨gb, 0, none⟩) cc y z 0 _ (Kd.R_reads' HRb.out).2.2 (Kd.R_reads' HRb.out).2.1 HHP.out).mono ?_
   rintro ev wx ⟨v_, rfl, ho, hb⟩
   have n_HSb : Aside0 (wx.cell? ⟨gb, 8, none⟩ = some (.int .u8 u)) := ⟨by rw [← HSb.out]; simp only [World.cell?, hb.block gb HGBL.out]⟩
   have HRz := Aside0.mk (Kd.R_lower ho (below_size HB.out))
   clear ho HSb HGBL HHP
   have HSb := n_HSb
   clear n_HSb
   have hb_ := hb
   have n_HB := Aside0.mk (below_step HB.out hb_)
   have n_HRb := Aside0.mk (Kd.R_below HRb.out hb_)
   clear HB HRb hb_
   have HB := n_HB
   have HRb := n_HRb
   clear n_HB n_HRb
   clear hb
   obtain ⟨gz, cz_, rfl, hgz, _, _⟩ := Kd.R_form HRz.out (by rw [HZL.out]; decide)
   have HSz : Aside0 (wx.cell? ⟨gz, 8, none⟩ = some (.int .u8 v)) := ⟨by have h8 := (Kd.R_celln (0 : Int) HRz.out ((8 : Nat) : Int) (by omega) (by rw [HZL.out]; decide)).1; rw [Int.toNat_natCast] at h8; rw [h8, HZ.out, HV2.out]; rfl⟩
   clear hgz
   (try dsimp only)
   go_upto_region 8 with (fail)
   refine start_ (n := 17) (S := fun w' => w'.cell? ⟨gb, 8, none⟩ = some (.int .u8 u) ∧ w'.cell? ⟨gz, 8, none⟩ = some (.int .u8 v)) (ds := []) #[false, false, false, false, false, false, false, false, false, false, false, false, false, false, false, false, false] (by kernel_rfl) rfl rfl ⟨HSb.out, HSz.out⟩ (fun hHeld => ?_)
   refine with_tabW hopsOut.R8.tab hopsOut.R8.bits (fun HT_ HW_ => ?_)
   have hb_ := below_drew1 (Below.refl wx.heap.size wx)
   have n_HB := Aside0.mk (below_step HB.out hb_)
   have n_HRb := Aside0.mk (Kd.R_below HRb.out hb_)
   have n_HRz := Aside0.mk (Kd.R_below HRz.out hb_)
   clear HB HRb HRz hb_
   have HB := n_HB
   have HRb := n_HRb
   have HRz := n_HRz
   clear n_HB n_HRb n_HRz
   clear HSb HSz
   generalize wx.drew = w9 at HB HRb HRz hHeld ⊢
   refine pure_ (i := 0) (N := some 34) (v := ?_) (a' := ?_) #[true, false, false, false, false, false, false, false, false, false, false, false, false, false, false, false, false] rfl rfl (any_of HT_.out (by kernel_rfl)) (fun _ _ _ h => h) (Or.inl ⟨by rfl, ?_⟩) ?_ ?_
   rotate_left
   ·intro w'
    go_simp
    with_reducible rfl
   rotate_left
   ·simp only [Act.put, List.setIfInBounds_toArray, List.set_cons_zero, List.set_cons_succ, i64_w, i32_w]
    rfl
   refine pure_ (i := 1) (N := some 35) (v := (.bool false)) #[true, true, false, false, false, false, false, false, false, false, false, false, false, false, false, false, false] rfl rfl (any_of HT_.out (by kernel_rfl)) (fun _ _ _ h => h) (Or.inl ⟨by rfl, fun w' => ?_⟩) rfl ?_
   ·first | (go_simp; done) | (go_simp; rfl) | (go_simp; decide)
   refine norm_ (a' := ?_) ?_ ?_
   rotate_left
   ·show Act.put _ (some 35) _ = _
    simp only [Act.put, List.setIfInBounds_toArray, List.set_cons_zero, List.set_cons_succ, i64_w, i32_w]
    rfl
   refine pure_ (i := 2) (N := some 36) (v := (.bool false)) #[true, true, true, false, false, false, false, false, false, false, false, false, false, false, false, false, false] rfl rfl (any_of HT_.out (by kernel_rfl)) (fun _ _ _ h => h) (Or.inl ⟨by rfl, fun w' => ?_⟩) rfl ?_
   ·first | (go_simp; done) | (go_simp; rfl) | (go_simp; decide)
   refine norm_ (a' := ?_) ?_ ?_
   rotate_left
   ·show Act.put _ (some 36) _ = _
    simp only [Act.put, List.setIfInBounds_toArray, List.set_cons_zero, List.set_cons_succ, i64_w, i32_w]
    rfl
   refine pure_ (i := 3) (N := some 37) (v := ?_) (a' := ?_) #[true, true, true, true, false, false, false, false, false, false, false, false, false, false, false, false, false] rfl rfl (any_of HT_.out (by kernel_rfl)) (fun _ _ _ h => h) (Or.inl ⟨by rfl, ?_⟩) ?_ ?_
   rotate_left
   ·intro w'
    go_simp
    with_reducible rfl
   rotate_left
   ·simp only [Act.put, List.setIfInBounds_toArray, List.set_cons_zero, List.set_cons_succ, i64_w, i32_w]
    rfl
   refine pure_ (i := 4) (N := some 38) (v := ?_) (a' := ?_) #[true, true, true, true, true, false, false, false, false, false, false, false, false, false, false, false, false] rfl rfl (any_of HT_.out (by kernel_rfl)) (fun _ _ _ h => h) (Or.inl ⟨by rfl, ?_⟩) ?_ ?_
   rotate_left
   ·intro w'
    go_simp
    with_reducible rfl
   rotate_left
   ·simp only [Act.put, List.setIfInBounds_toArray, List.set_cons_zero, List.set_cons_succ, i64_w, i32_w]
    rfl
   refine pure_ (i := 5) (N := some 39) (v := (.bool false)) #[true, true, true, true, true, true, false, false, false, false, false, false, false, false, false, false, false] rfl rfl (any_of HT_.out (by kernel_rfl)) (fun _ _ _ h => h) (Or.inl ⟨by rfl, fun w' => ?_⟩) rfl ?_
   ·have z_ := HZL.out
    first | (go_simp; done) | (go_simp; rfl) | (go_simp; decide)
   refine norm_ (a' := ?_) ?_ ?_
   rotate_left
   ·show Act.put _ (some 39) _ = _
    simp only [Act.put, List.setIfInBounds_toArray, List.set_cons_zero, List.set_cons_succ, i64_w, i32_w]
    rfl
   refine pure_ (i := 6) (N := some 40) (v := (.bool false)) #[true, true, true, true, true, true, true, false, false, false, false, false, false, false, false, false, false] rfl rfl (any_of HT_.out (by kernel_rfl)) (fun _ _ _ h => h) (Or.inl ⟨by rfl, fun w' => ?_⟩) rfl ?_
   ·first | (go_simp; done) | (go_simp; rfl) | (go_simp; decide)
   refine norm_ (a' := ?_) ?_ ?_
   rotate_left
   ·show Act.put _ (some 40) _ = _
    simp only [Act.put, List.setIfInBounds_toArray, List.set_cons_zero, List.set_cons_succ, i64_w, i32_w]
    rfl
   refine pure_ (i := 7) (N := some 41) (v := (.bool false)) #[true, true, true, true, true, true, true, true, false, false, false, false, false, false, false, false, false] rfl rfl (any_of HT_.out (by kernel_rfl)) (fun _ _ _ h => h) (Or.inl ⟨by rfl, fun w' => ?_⟩) rfl ?_
   ·first | (go_simp; done) | (go_simp; rfl) | (go_simp; decide)
   refine norm_ (a' := ?_) ?_ ?_
   rotate_left
   ·show Act.put _ (some 41) _ = _
    simp only [Act.put, List.setIfInBounds_toArray, List.set_cons_zero, List.set_cons_succ, i64_w, i32_w]
    rfl
   refine pure_ (i := 8) (N := some 42) (v := ?_) (a' := ?_) #[true, true, true, true, true, true, true, true, true, false, false, false, false, false, false, false, false] rfl rfl (any_of HT_.out (by kernel_rfl)) (fun _ _ _ h => h) (Or.inl ⟨by rfl, ?_⟩) ?_ ?_
   rotate_left
   ·intro w'
    go_simp
    with_reducible rfl
   rotate_left
   ·simp only [Act.put, List.setIfInBounds_toArray, List.set_cons_zero, List.set_cons_succ, i64_w, i32_w]
    rfl
   refine pure_ (i := 9) (N := some 43) (v := ?_) (a' := ?_) #[true, true, true, true, true, true, true, true, true, true, false, false, false, false, false, false, false] rfl rfl (any_of HT_.out (by kernel_rfl)) (fun _ _ _ h => h) (Or.inl ⟨by rfl, ?_⟩) ?_ ?_
   rotate_left
   ·intro w'
    have z_ : ((8 : Int) < (z.length : Int)) = True := eq_true (by have := HZL.out; omega)
    go_simp
    with_reducible rfl
   rotate_left
   ·simp only [Act.put, List.setIfInBounds_toArray, List.set_cons_zero, List.set_cons_succ, i64_w, i32_w]
    rfl
   refine pure_ (i := 11) (N := some 45) (v := ?_) (a' := ?_) #[true, true, true, true, true, true, true, true, true, true, false, true, false, false, false, false, false] rfl rfl (any_of HT_.out (by kernel_rfl)) (fun _ _ _ h => h) (Or.inl ⟨by rfl, ?_⟩) ?_ ?_
   rotate_left
   ·intro w'
    go_simp
    with_reducible rfl
   rotate_left
   ·simp only [Act.put, List.setIfInBounds_toArray, List.set_cons_zero, List.set_cons_succ, i64_w, i32_w]
    rfl
   refine pure_ (i := 12) (N := some 46) (v := ?_) (a' := ?_) #[true, true, true, true, true, true, true, true, true, true, false, true, true, false, false, false, false] rfl rfl (any_of HT_.out (by kernel_rfl)) (fun _ _ _ h => h) (Or.inl ⟨by rfl, ?_⟩) ?_ ?_
   rotate_left
   ·intro w'
    have z_ : ((8 : Int) < (y.length : Int)) = True := eq_true (by have := HYL.out; omega)
    go_simp
    with_reducible rfl
   rotate_left
   ·simp only [Act.put, List.setIfInBounds_toArray, List.set_cons_zero, List.set_cons_succ, i64_w, i32_w]
    rfl
   refine take_ (i := 10) (N := some 44) (v := ?_) (a' := ?_) #[true, true, true, true, true, true, true, true, true, true, true, true, true, false, false, false, false] rfl rfl (take_ofW HT_.out HW_.out (by kernel_rfl)) (fun _ _ _ h => h) (Or.inl ⟨by rfl, ?_⟩) hHeld ?_ ?_
   rotate_left
   ·intro w' s0
    obtain ⟨s0, s1⟩ := s0
    go_simp
    with_reducible rfl
   rotate_left
   ·simp only [Act.put, List.setIfInBounds_toArray, List.set_cons_zero, List.set_cons_succ, i64_w, i32_w]
    rfl
   refine take_ (i := 13) (N := some 47) (v := ?_) (a' := ?_) #[true, true, true, true, true, true, true, true, true, true, true, true, true, true, false, false, false] rfl rfl (take_ofW HT_.out HW_.out (by kernel_rfl)) (fun _ _ _ h => h) (Or.inl ⟨by rfl, ?_⟩) hHeld ?_ ?_
   rotate_left
   ·intro w' s0
    obtain ⟨s0, s1⟩ := s0
    go_simp
    with_reducible rfl
   rotate_left
   ·simp only [Act.put, List.setIfInBounds_toArray, List.set_cons_zero, List.set_cons_succ, i64_w, i32_w]
    rfl
   refine pure_ (i := 14) (N := some 48) (v := (.int .u8 v)) #[true, true, true, true, true, true, true, true, true, true, true, true, true, true, true, false, false] rfl rfl (any_of HT_.out (by kernel_rfl)) (fun _ _ _ h => h) (Or.inl ⟨by rfl, fun w' => ?_⟩) rfl ?_
   ·have z_ := HUV.out
    first | (go_simp; done) | (go_simp; rfl) | (go_simp; rw [IntKind.wrap_u8]; exact z_)
   refine norm_ (a' := ?_) ?_ ?_
   rotate_left
   ·show Act.put _ (some 48) _ = _
    simp only [Act.put, List.setIfInBounds_toArray, List.set_cons_zero, List.set_cons_succ, i64_w, i32_w]
    rfl
   refine pure_ (i := 15) (N := some 49) (v := (.bool false)) #[true, true, true, true, true, true, true, true, true, true, true, true, true, true, true, true, false] rfl rfl (any_of HT_.out (by kernel_rfl)) (fun _ _ _ h => h) (Or.inl ⟨by rfl, fun w' => ?_⟩) rfl ?_
   ·first | (go_simp; done) | (go_simp; rfl) | (go_simp; decide)
   refine norm_ (a' := ?_) ?_ ?_
   rotate_left
   ·show Act.put _ (some 49) _ = _
    simp only [Act.put, List.setIfInBounds_toArray, List.set_cons_zero, List.set_cons_succ, i64_w, i32_w]
    rfl
   refine pure_ (i := 16) (N := some 50) (v := (.bool false)) #[true, true, true, true, true, true, true, true, true, true, true, true, true, true, true, true, true] rfl rfl (any_of HT_.out (by kernel_rfl)) (fun _ _ _ h => h) (Or.inl ⟨by rfl, fun w' => ?_⟩) rfl ?_
   ·first | (go_simp; done) | (go_simp; rfl) | (go_simp; decide)
   refine norm_ (a' := ?_) ?_ ?_
   rotate_left
   ·show Act.put _ (some 50) _ = _
    simp only [Act.put, List.setIfInBounds_toArray, List.set_cons_zero, List.set_cons_succ, i64_w, i32_w]
    rfl
   refine done_ (done_of HT_.out (by kernel_rfl)) ?_
   clear HT_ HW_ hHeld
   clear HRb
   have w7 : wrap64 ((j : Int) + 1) = ((j + 1 : Nat) : Int) := by have h1 := HC6.out; have h2 := HTT.out; unfold wrap64; omega
   (try dsimp only)
   go_wp2
   go_roundg (gk - 1)
   case measure => have h1 := HJ.out; have h2 := HC6.out; have h3 := HTM.out; clear w7; omega
   case rel => exact ⟨j + 1, _, _, z, rfl, by first | rfl | (simp [w7]; done) | (simp only [w7]; rfl), ⟨by clear w7; have h1 := HJ.out; have h2 := HC6.out; have h3 := HTM.out; refine ⟨by omega, by omega, ?_⟩; rw [HZ.out]; congr 1; omega⟩, HRz, HB⟩
  ·have c6b : decide ((j : Int) < T) = false := decide_eq_false c6
   have HJM : Aside0 (T - (j : Int) = 0) := ⟨by have := HJ.out; have := HTM.out; omega⟩
   have HHP : Aside0 (rewrite_Hop.f 4000 y = some ([], 21)) := ⟨by rw [HJ.out.2.2, HJM.out]; exact hb8_last HPR.out⟩
   clear c6
   go_wp2_with fail
   clear c6b
   refine (rewrite_Hop.calls 4000 A cc y [] 21 _ (Kd.R_reads' HRb.out).2.2 (Kd.R_reads' HRb.out).2.1 HHP.out).mono ?_
   rintro ev wx ⟨v_, rfl, ho, hb⟩
   clear ho HHP
   have hb_ := hb
   have n_HB := Aside0.mk (below_step HB.out hb_)
   have n_HRb := Aside0.mk (Kd.R_below HRb.out hb_)
   clear HB HRb hb_
   have HB := n_HB
   have HRb := n_HRb
   clear n_HB n_HRb
   clear hb
   (try dsimp only)
   go_wp2
   (try simp only [Exit.inBlock, Exit.then])
   go_ret
   exact ⟨rfl, HB.out⟩
end Go.Proofs.Ytkmimamminddiaa.PB
