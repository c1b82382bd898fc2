/- Plain laws on lists of bytes, 16-bit words and the Internet's checksum: no program in sight. -/
import Derived.Laws.BitsAllLaws
import Derived.Laws.BitsLemmas
import Derived.RowKit
namespace Go.Proofs.Ytnfgmcjgmccggaa.Spec
set_option linter.unusedVariables false
set_option linter.unusedSimpArgs false
open Go.RowKit

/-- bytes -/
def IsB (l : List Int) : Prop := ∀ x ∈ l, 0 ≤ x ∧ x ≤ 255
/-- words of 16 bits -/
def IsW (l : List Int) : Prop := ∀ x ∈ l, 0 ≤ x ∧ x ≤ 65535
theorem IsB.nil : IsB [] := fun _ h => by simp at h
theorem IsB.cons {a : Int} {l : List Int} (h : 0 ≤ a ∧ a ≤ 255) (hl : IsB l) : IsB (a :: l) := fun x hx => by
  rcases List.mem_cons.1 hx with rfl | hx
  · exact h
  · exact hl _ hx
theorem IsB.append {l m : List Int} (h : IsB l) (hm : IsB m) : IsB (l ++ m) := fun x hx => by
  rcases List.mem_append.1 hx with hx | hx
  · exact h _ hx
  · exact hm _ hx
theorem IsB.left {l m : List Int} (h : IsB (l ++ m)) : IsB l := fun x hx => h x (List.mem_append.2 (.inl hx))
theorem IsB.right {l m : List Int} (h : IsB (l ++ m)) : IsB m := fun x hx => h x (List.mem_append.2 (.inr hx))
theorem IsB.take {l : List Int} (h : IsB l) (n : Nat) : IsB (l.take n) := fun x hx => h x (List.mem_of_mem_take hx)
theorem IsB.drop {l : List Int} (h : IsB l) (n : Nat) : IsB (l.drop n) := fun x hx => h x (List.mem_of_mem_drop hx)
theorem IsB.set {l : List Int} (h : IsB l) (i : Nat) {v : Int} (hv : 0 ≤ v ∧ v ≤ 255) : IsB (l.set i v) := fun x hx => by
  rcases List.mem_or_eq_of_mem_set hx with hx | rfl
  · exact h _ hx
  · exact hv
theorem IsB.replicate (n : Nat) : IsB (List.replicate n 0) := fun x hx => by
  have := List.eq_of_mem_replicate hx
  omega
theorem IsB.getD {l : List Int} (h : IsB l) (i : Nat) : 0 ≤ l.getD i 0 ∧ l.getD i 0 ≤ 255 := by
  rw [List.getD_eq_getElem?_getD]
  rcases Nat.lt_or_ge i l.length with hi | hi
  · rw [List.getElem?_eq_getElem hi]
    exact h _ (List.getElem_mem hi)
  · rw [List.getElem?_eq_none hi]
    simp

def words : List Int → List Int
  | [] => []
  | [a] => [a * 256]
  | a :: b :: t => (a * 256 + b) :: words t
theorem words_isW : ∀ l : List Int, IsB l → IsW (words l)
  | [], _ => fun _ h => by simp [words] at h
  | [a], h => fun x hx => by
    have := h a (by simp)
    simp [words] at hx
    omega
  | a :: b :: t, h => fun x hx => by
    have ha := h a (by simp)
    have hb := h b (by simp)
    have ht : IsB t := fun y hy => h y (by simp [hy])
    rcases List.mem_cons.1 (show x ∈ (a * 256 + b) :: words t from hx) with rfl | hx
    · omega
    · exact words_isW t ht _ hx
theorem words_length : ∀ l : List Int, (words l).length = (l.length + 1) / 2
  | [] => rfl
  | [_] => by simp [words]
  | a :: b :: t => by
    have := words_length t
    simp only [words, List.length_cons, this]
    omega
theorem words_append : ∀ (l m : List Int), l.length % 2 = 0 → words (l ++ m) = words l ++ words m
  | [], m, _ => by simp [words]
  | [a], m, h => by simp at h
  | a :: b :: t, m, h => by
    have ht : t.length % 2 = 0 := by simp only [List.length_cons] at h; omega
    simp only [List.cons_append, words, words_append t m ht]
/-- word number j -/
theorem words_get : ∀ (l : List Int) (j : Nat), 2 * j < l.length → (words l)[j]? = some (l.getD (2 * j) 0 * 256 + l.getD (2 * j + 1) 0)
  | [], j, h => by simp at h
  | [a], j, h => by
    have : j = 0 := by simp at h; omega
    subst this
    simp [words]
  | a :: b :: t, 0, _ => by simp [words]
  | a :: b :: t, j + 1, h => by
    have := words_get t j (by simp only [List.length_cons] at h; omega)
    simp only [words, List.getElem?_cons_succ, this]
    rw [show 2 * (j + 1) = 2 * j + 1 + 1 from by omega]
    simp

/-- one's complement addition in 32 bits -/
def oadd (s x : Int) : Int := if s + x > 4294967295 then s + x - 4294967295 else s + x
def addw (s : Int) (ws : List Int) : Int := ws.foldl oadd s
def norm (n : Int) : Int := if n = 0 then 0 else (n - 1) % 65535 + 1
def isum : List Int → Int
  | [] => 0
  | x :: t => x + isum t
theorem isum_append : ∀ a b : List Int, isum (a ++ b) = isum a + isum b
  | [], b => by simp [isum]
  | x :: t, b => by simp only [List.cons_append, isum, isum_append t b]; omega
theorem isum_nonneg : ∀ l : List Int, IsW l → 0 ≤ isum l
  | [], _ => by simp [isum]
  | x :: t, h => by
    have := isum_nonneg t (fun y hy => h y (by simp [hy]))
    have := h x (by simp)
    simp only [isum]; omega
theorem norm_range (n : Int) (h : 0 ≤ n) : 0 ≤ norm n ∧ norm n ≤ 65535 := by unfold norm; split <;> omega
theorem norm_pos {n : Int} (h : 0 < n) : 1 ≤ norm n := by unfold norm; split <;> omega
theorem norm_zero {n : Int} (h : 0 ≤ n) : norm n = 0 ↔ n = 0 := by unfold norm; split <;> omega
theorem norm_small {n : Int} (h0 : 0 ≤ n) (h : n ≤ 65535) : norm n = n := by unfold norm; split <;> omega
theorem norm_add_norm {n r : Int} (h : 0 ≤ n) (hr : 0 ≤ r) : norm (norm n + r) = norm (n + r) := by
  unfold norm
  split
  · split <;> split <;> omega
  · split <;> split <;> omega
theorem oadd_range {s x : Int} (h0 : 0 ≤ s) (h1 : s ≤ 4294967295) (hx : 0 ≤ x ∧ x ≤ 65535) : 0 ≤ oadd s x ∧ oadd s x ≤ 4294967295 := by
  unfold oadd; split <;> omega
theorem oadd_norm {s x r : Int} (h0 : 0 ≤ s) (h1 : s ≤ 4294967295) (hx : 0 ≤ x ∧ x ≤ 65535) (hr : 0 ≤ r) : norm (oadd s x + r) = norm (s + x + r) := by
  unfold oadd norm
  split
  · rw [if_neg (by omega), if_neg (by omega)]; omega
  · rfl
theorem addw_range : ∀ (ws : List Int) (s : Int), 0 ≤ s → s ≤ 4294967295 → IsW ws → 0 ≤ addw s ws ∧ addw s ws ≤ 4294967295
  | [], s, h0, h1, _ => ⟨h0, h1⟩
  | x :: t, s, h0, h1, hw => by
    have hx := oadd_range h0 h1 (hw x (by simp))
    exact addw_range t (oadd s x) hx.1 hx.2 (fun y hy => hw y (by simp [hy]))
theorem addw_norm : ∀ (ws : List Int) (s r : Int), 0 ≤ s → s ≤ 4294967295 → IsW ws → 0 ≤ r → norm (addw s ws + r) = norm (s + isum ws + r)
  | [], s, r, h0, h1, _, hr => by simp [addw, isum]
  | x :: t, s, r, h0, h1, hw, hr => by
    have hx := oadd_range h0 h1 (hw x (by simp))
    have ht : IsW t := fun y hy => hw y (by simp [hy])
    have e := addw_norm t (oadd s x) r hx.1 hx.2 ht hr
    have hi := isum_nonneg t ht
    have e2 := oadd_norm (r := isum t + r) h0 h1 (hw x (by simp)) (by omega)
    show norm (addw (oadd s x) t + r) = norm (s + (x + isum t) + r)
    rw [e, show oadd s x + isum t + r = oadd s x + (isum t + r) from by omega, e2]
    congr 1; omega
theorem addw_append (s : Int) (a b : List Int) : addw s (a ++ b) = addw (addw s a) b := by simp [addw]
/-- the folded sum of words, from a start -/
theorem norm_addw (ws : List Int) (s : Int) (h0 : 0 ≤ s) (h1 : s ≤ 4294967295) (hw : IsW ws) : norm (addw s ws) = norm (s + isum ws) := by
  have := addw_norm ws s 0 h0 h1 hw (by omega)
  simpa using this
/-- the checksum of bytes -/
def ck (l : List Int) : Int := 65535 - norm (isum (words l))
theorem ck_range (l : List Int) (h : IsB l) : 0 ≤ ck l ∧ ck l ≤ 65535 := by
  have := norm_range _ (isum_nonneg _ (words_isW l h))
  unfold ck; omega

/-! ### bits -/
theorem wraps_u16 (n : Int) (h₀ : 0 ≤ n) (h₁ : n < 2 ^ 16) : IntKind.u16.wrap n = n := by rw [IntKind.wrap_u16]; omega
theorem wraps_u32 (n : Int) (h₀ : 0 ≤ n) (h₁ : n < 2 ^ 32) : IntKind.u32.wrap n = n := by rw [IntKind.wrap_u32]; omega
theorem u16w {n : Int} (h₀ : 0 ≤ n) (h₁ : n ≤ 65535) : IntKind.u16.wrap n = n := wraps_u16 n h₀ (by omega)
theorem u64w {n : Int} (h₀ : 0 ≤ n) (h₁ : n ≤ 18446744073709551615) : IntKind.u64.wrap n = n := by rw [IntKind.wrap_u64]; omega
theorem and_u8 (i : Nat) (hi : i ≤ 8) {x : Int} (h₀ : 0 ≤ x) (h₁ : x ≤ 255) : Go.bits .and .u8 x (2 ^ i - 1) = x % 2 ^ i := bits_mask .u8 8 (by decide) wraps_u8 i hi x h₀ (by omega)
theorem and_u16 (i : Nat) (hi : i ≤ 16) {x : Int} (h₀ : 0 ≤ x) (h₁ : x ≤ 65535) : Go.bits .and .u16 x (2 ^ i - 1) = x % 2 ^ i := bits_mask .u16 16 (by decide) wraps_u16 i hi x h₀ (by omega)
theorem and_u32 (i : Nat) (hi : i ≤ 32) {x : Int} (h₀ : 0 ≤ x) (h₁ : x ≤ 4294967295) : Go.bits .and .u32 x (2 ^ i - 1) = x % 2 ^ i := bits_mask .u32 32 (by decide) wraps_u32 i hi x h₀ (by omega)
theorem or_u8 (i : Nat) {x y : Int} (hx₀ : 0 ≤ x) (hx : x % 2 ^ i = 0) (hx₁ : x ≤ 255) (hy₀ : 0 ≤ y) (hy : y < 2 ^ i) (hy₁ : y ≤ 255) : Go.bits .or .u8 x y = x + y := bits_join .u8 8 (by decide) wraps_u8 i x y hx₀ hx (by omega) hy₀ hy (by omega)
theorem or_u16 (i : Nat) {x y : Int} (hx₀ : 0 ≤ x) (hx : x % 2 ^ i = 0) (hx₁ : x ≤ 65535) (hy₀ : 0 ≤ y) (hy : y < 2 ^ i) (hy₁ : y ≤ 65535) : Go.bits .or .u16 x y = x + y := bits_join .u16 16 (by decide) wraps_u16 i x y hx₀ hx (by omega) hy₀ hy (by omega)
theorem or_u32 (i : Nat) {x y : Int} (hx₀ : 0 ≤ x) (hx : x % 2 ^ i = 0) (hx₁ : x ≤ 4294967295) (hy₀ : 0 ≤ y) (hy : y < 2 ^ i) (hy₁ : y ≤ 4294967295) : Go.bits .or .u32 x y = x + y := bits_join .u32 32 (by decide) wraps_u32 i x y hx₀ hx (by omega) hy₀ hy (by omega)
theorem and_65535 {x : Int} (h₀ : 0 ≤ x) (h₁ : x ≤ 4294967295) : Go.bits .and .u32 x 65535 = x % 65536 := and_u32 16 (by decide) h₀ h₁
theorem join16 {a b : Int} (ha : 0 ≤ a ∧ a ≤ 255) (hb : 0 ≤ b ∧ b ≤ 255) : Go.bits .or .u16 (a * 256) b = a * 256 + b := or_u16 8 (by omega) (by omega) (by omega) (by omega) (by omega) (by omega)
theorem not_u16 {x : Int} (h₀ : 0 ≤ x) (h₁ : x ≤ 65535) : Go.bits .xor .u16 65535 x = 65535 - x := by
  obtain ⟨a, rfl⟩ := Int.eq_ofNat_of_zero_le h₀
  have ha : a < 65536 := by omega
  rw [show (65535 : Int) = ((65535 : Nat) : Int) from rfl, Go.u16_xor_nat 65535 a (by decide) ha]
  have : (65535 ^^^ a : Nat) = 65535 - a := by
    have h1 := BitVec.toNat_not (x := BitVec.ofNat 16 a)
    have h2 : (~~~ (BitVec.ofNat 16 a)) = BitVec.ofNat 16 65535 ^^^ BitVec.ofNat 16 a := by
      rw [show BitVec.ofNat 16 65535 = BitVec.allOnes 16 from rfl, BitVec.allOnes_xor]
    rw [h2, BitVec.toNat_xor, BitVec.toNat_ofNat, BitVec.toNat_ofNat, Nat.mod_eq_of_lt (show 65535 < 2 ^ 16 from by decide), Nat.mod_eq_of_lt (show a < 2 ^ 16 from ha)] at h1
    rw [h1]
  rw [this]
  omega
theorem wrap64_id {n : Int} (h₀ : -9223372036854775808 ≤ n) (h₁ : n ≤ 9223372036854775807) : wrap64 n = n := by unfold wrap64; omega
end Go.Proofs.Ytnfgmcjgmccggaa.Spec
