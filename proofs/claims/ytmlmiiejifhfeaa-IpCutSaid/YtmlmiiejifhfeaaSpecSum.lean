/- Plain laws of the checksum: words changed, swapped, padded. -/
import Derived.Test.YtmlmiiejifhfeaaSpec
namespace Go.Proofs.Ytmlmiiejifhfeaa.Spec
set_option linter.unusedVariables false
set_option linter.unusedSimpArgs false
open Go.RowKit

theorem words_set2 : ∀ (l : List Int) (t : Nat) (a b : Int), 2 * t + 1 < l.length → words ((l.set (2 * t) a).set (2 * t + 1) b) = (words l).set t (a * 256 + b)
  | [], t, a, b, h => by simp at h
  | [x], t, a, b, h => by simp at h
  | x :: y :: l, 0, a, b, h => by simp [words]
  | x :: y :: l, t + 1, a, b, h => by
    have := words_set2 l t a b (by simp only [List.length_cons] at h; omega)
    rw [show 2 * (t + 1) = 2 * t + 1 + 1 from by omega]
    simp only [List.set_cons_succ, words, this]
theorem isum_set : ∀ (ws : List Int) (t : Nat) (v : Int), t < ws.length → isum (ws.set t v) = isum ws - ws.getD t 0 + v
  | [], t, v, h => by simp at h
  | x :: ws, 0, v, h => by simp [isum]; omega
  | x :: ws, t + 1, v, h => by
    have := isum_set ws t v (by simp only [List.length_cons] at h; omega)
    simp only [List.set_cons_succ, isum, this, List.getD_cons_succ]; omega
theorem isum_ge : ∀ (ws : List Int) (t : Nat), IsW ws → ws.getD t 0 ≤ isum ws
  | [], t, _ => by simp [isum]
  | x :: ws, 0, h => by
    have := isum_nonneg ws (fun y hy => h y (by simp [hy]))
    simp [isum]; omega
  | x :: ws, t + 1, h => by
    have h1 := isum_ge ws t (fun y hy => h y (by simp [hy]))
    have h2 := h x (by simp)
    simp only [isum, List.getD_cons_succ]; omega
/-- word number t of bytes -/
def wordAt (l : List Int) (t : Nat) : Int := l.getD (2 * t) 0 * 256 + l.getD (2 * t + 1) 0
theorem wordAt_eq (l : List Int) (t : Nat) (h : 2 * t < l.length) : (words l).getD t 0 = wordAt l t := by
  rw [List.getD_eq_getElem?_getD, words_get l t h]; rfl
theorem wordAt_range {l : List Int} (h : IsB l) (t : Nat) : 0 ≤ wordAt l t ∧ wordAt l t ≤ 65535 := by
  have h1 := h.getD (2 * t)
  have h2 := h.getD (2 * t + 1)
  unfold wordAt; omega
theorem isum_change (l : List Int) (t : Nat) (a b : Int) (h : 2 * t + 1 < l.length) :
    isum (words ((l.set (2 * t) a).set (2 * t + 1) b)) = isum (words l) - wordAt l t + (a * 256 + b) := by
  have hl := words_length l
  rw [words_set2 l t a b h, isum_set _ _ _ (by omega), wordAt_eq l t (by omega)]
theorem isum_zeros : ∀ n, isum (words (List.replicate n 0)) = 0
  | 0 => rfl
  | 1 => rfl
  | n + 2 => by
    have := isum_zeros n
    rw [List.replicate_succ, List.replicate_succ]
    simp only [words, isum, this]; omega
theorem isum_pad : ∀ (l : List Int) (n : Nat), isum (words (l ++ List.replicate n 0)) = isum (words l)
  | [], n => by simp only [List.nil_append]; exact isum_zeros n
  | [a], 0 => by simp
  | [a], n + 1 => by
    have := isum_zeros n
    rw [List.replicate_succ]
    simp only [List.cons_append, List.nil_append, words, isum, this]; omega
  | a :: b :: l, n => by
    have := isum_pad l n
    simp only [List.cons_append, words, isum, this]
theorem words_pad : ∀ (l : List Int), words (l ++ List.replicate (l.length % 2) 0) = words l
  | [] => rfl
  | [a] => by simp [words]
  | a :: b :: l => by
    have := words_pad l
    rw [show (a :: b :: l).length % 2 = l.length % 2 from by simp only [List.length_cons]; omega]
    simp only [List.cons_append, words, this]
/-- of the two noughts either -/
def Same (a b : Int) : Prop := a = b ∨ a = 0 ∧ b = 65535 ∨ a = 65535 ∧ b = 0
theorem same_up {S k : Int} (h : 0 ≤ S) (hk : k = 65535 ∨ k = 131070) : Same (65535 - norm (S + k)) (65535 - norm S) := by
  unfold Same norm
  rcases hk with rfl | rfl
  · rw [if_neg (by omega)]; split <;> omega
  · rw [if_neg (by omega)]; split <;> omega
/-- a checksum laid into a word that was nought -/
theorem stands {S : Int} (h : 0 ≤ S) : norm (S + (65535 - norm S)) = 65535 := by
  unfold norm
  split
  · rw [if_neg (by omega)]; omega
  · rw [if_neg (by omega)]; omega
theorem isum_le : ∀ ws : List Int, IsW ws → isum ws ≤ 65535 * ws.length
  | [], _ => by simp [isum]
  | x :: t, h => by
    have h1 := isum_le t (fun y hy => h y (by simp [hy]))
    have h2 := h x (by simp)
    simp only [isum, List.length_cons]; omega
end Go.Proofs.Ytmlmiiejifhfeaa.Spec
