/- Texts of this claim, merged: PBx55, PBx34, Spec, BytesEq, BytesEqB, FT, SumEq, SumEqP, PBx1, PBx57, RwTs, PBx29, PBx31, SpecSum, FU, FU2, SumEqO, FI, PBx41, FR, FB, RwPp, PBx40, FE, PBx33, PBx4, PBx21, FV, RwSg, PBx56, RwIn, RwRHop, RwHp, RwHops, RwAgg. -/
import Derived.Test.YtkmimamminddiaaZhb
import Derived.Test.YtkmimamminddiaaZhe
import Derived.Laws.BitsAllLaws
import Derived.Laws.BitsLemmas
import Derived.RowKit
import Derived.Test.YtkmimamminddiaaZhd
import Derived.Test.YtkmimamminddiaaZhc
import Derived.Deep.Cut
import Derived.Deep.CutRange
import Derived.Deep.CutBlock
import Derived.Deep.WholeRow
import Derived.Test.YtkmimamminddiaaZha
import Derived.Test.YtkmimamminddiaaChecked
import Derived.OpenShut
import Derived.ChangeArms
set_option maxHeartbeats 40000000
set_option maxRecDepth 100000
namespace Go.Proofs.Ytkmimamminddiaa.PB
open Go.RowKit Go.Proofs.YtkmimamminddiaaW.PrintWords Go.Proofs.YtkmimamminddiaaW.PrintLast Go.Proofs.YtkmimamminddiaaW.PrintMore
attribute [local go_sem] max2_int min2_int max_two min_two max_three min_three max_four min_four   -- for this text's walks alone
set_option linter.unusedVariables false
set_option linter.unusedSimpArgs false
def lychref1_Icmp.f (l0 : List Int) : Option (Int × Int × Int × Int × List Int × Int) := if (l0.length : Int) < 8 then (some (0, 0, 0, 0, ([] : List Int), 20)) else (if 0 < (l0.length : Int) then (if 1 < (l0.length : Int) then ((lychref1_Get16.f l0 2).bind fun t792 => ((lychref1_Get32.f l0 4).bind fun t793 => ((lychref1_cut.f l0 8 (l0.length : Int)).bind fun t794 => (some (rd l0 0, rd l0 1, t792, t793, t794, 0))))) else (none)) else (none))
def lychhelp_Bytes.f (l0 : List Int) (l1 : List Int) : Option (Bool) := some ((strOfNums l0).toList == (strOfNums l1).toList)
theorem lychhelp_Bytes.calls (A0 : Option Addr) (c0 : Nat) (l0 : List Int) (A1 : Option Addr) (c1 : Nat) (l1 : List Int) (r : Bool) (w : World) (hr0 : Kd.C (Kd.int .u8) w A0 l0.length l0) (hc0 : l0.length ≤ c0) (hr1 : Kd.C (Kd.int .u8) w A1 l1.length l1) (hc1 : l1.length ≤ c1) (h : lychhelp_Bytes.f l0 l1 = some r) :
  Calls Try.prog 22 #[.slice A0 l0.length c0, .slice A1 l1.length c1] w fun e w' => e = .returned (.bool r) ∧ Drawn0 w w' := by
 have HR0 := Aside0.mk hr0
 have HC0 := Aside0.mk hc0
 clear hr0 hc0
 have HR1 := Aside0.mk hr1
 have HC1 := Aside0.mk hc1
 clear hr1 hc1
 have H : (some ((strOfNums l0).toList == (strOfNums l1).toList)) = some r := h
 clear h
 obtain rfl := Option.some.inj H
 have hcv3 := Kd.C_string (P := Try.prog) (A := A0) (c := c0) Try.underlying23 Try.underlying5 Try.underlying9 HR0.out
 have hcv4 := Kd.C_string (P := Try.prog) (A := A1) (c := c1) Try.underlying23 Try.underlying5 Try.underlying9 HR1.out
 go_enter Try.func22, Try.ntmps22
 go_wp2
 go_ret
 exact ⟨by first | rfl | (simp; done) | (simp [*]; done), by repeat (first | exact Drawn0.refl _ | apply Drawn0.step)⟩
end Go.Proofs.Ytkmimamminddiaa.PB
/- Plain laws on lists of bytes, 16-bit words and the Internet's checksum: no program in sight. -/
namespace Go.Proofs.Ytkmimamminddiaa.Spec
set_option linter.unusedVariables false
set_option linter.unusedSimpArgs false
open Go.RowKit
def IsB (l : List Int) : Prop := ∀ x ∈ l, 0 ≤ x ∧ x ≤ 255
def IsW (l : List Int) : Prop := ∀ x ∈ l, 0 ≤ x ∧ x ≤ 65535
theorem IsB.nil : IsB [] := fun _ h => by simp at h
theorem IsB.cons {a : Int} {l : List Int} (h : 0 ≤ a ∧ a ≤ 255) (hl : IsB l) : IsB (a :: l) := fun x hx => by
 rcases List.mem_cons.1 hx with rfl | hx
 ·exact h
 ·exact hl _ hx
theorem IsB.append {l m : List Int} (h : IsB l) (hm : IsB m) : IsB (l ++ m) := fun x hx => by
 rcases List.mem_append.1 hx with hx | hx
 ·exact h _ hx
 ·exact hm _ hx
theorem IsB.left {l m : List Int} (h : IsB (l ++ m)) : IsB l := fun x hx => h x (List.mem_append.2 (.inl hx))
theorem IsB.right {l m : List Int} (h : IsB (l ++ m)) : IsB m := fun x hx => h x (List.mem_append.2 (.inr hx))
theorem IsB.take {l : List Int} (h : IsB l) (n : Nat) : IsB (l.take n) := fun x hx => h x (List.mem_of_mem_take hx)
theorem IsB.drop {l : List Int} (h : IsB l) (n : Nat) : IsB (l.drop n) := fun x hx => h x (List.mem_of_mem_drop hx)
theorem IsB.set {l : List Int} (h : IsB l) (i : Nat) {v : Int} (hv : 0 ≤ v ∧ v ≤ 255) : IsB (l.set i v) := fun x hx => by
 rcases List.mem_or_eq_of_mem_set hx with hx | rfl
 ·exact h _ hx
 ·exact hv
theorem IsB.replicate (n : Nat) : IsB (List.replicate n 0) := fun x hx => by
 have := List.eq_of_mem_replicate hx
 omega
theorem IsB.getD {l : List Int} (h : IsB l) (i : Nat) : 0 ≤ l.getD i 0 ∧ l.getD i 0 ≤ 255 := by
 rw [List.getD_eq_getElem?_getD]
 rcases Nat.lt_or_ge i l.length with hi | hi
 ·rw [List.getElem?_eq_getElem hi]
  exact h _ (List.getElem_mem hi)
 ·rw [List.getElem?_eq_none hi]
  simp
def words : List Int → List Int
 | [] => []
 | [a] => [a * 256]
 | a :: b :: t => (a * 256 + b) :: words t
theorem words_isW : ∀ l : List Int, IsB l → IsW (words l)
 | [], _ => fun _ h => by simp [words] at h
 | [a], h => fun x hx => by
  have := h a (by simp)
  simp [words] at hx
  omega
 | a :: b :: t, h => fun x hx => by
  have ha := h a (by simp)
  have hb := h b (by simp)
  have ht : IsB t := fun y hy => h y (by simp [hy])
  rcases List.mem_cons.1 (show x ∈ (a * 256 + b) :: words t from hx) with rfl | hx
  ·omega
  ·exact words_isW t ht _ hx
theorem words_length : ∀ l : List Int, (words l).length = (l.length + 1) / 2
 | [] => rfl
 | [_] => by simp [words]
 | a :: b :: t => by
  have := words_length t
  simp only [words, List.length_cons, this]
  omega
theorem words_get : ∀ (l : List Int) (j : Nat), 2 * j < l.length → (words l)[j]? = some (l.getD (2 * j) 0 * 256 + l.getD (2 * j + 1) 0)
 | [], j, h => by simp at h
 | [a], j, h => by
  have : j = 0 := by simp at h; omega
  subst this
  simp [words]
 | a :: b :: t, 0, _ => by simp [words]
 | a :: b :: t, j + 1, h => by
  have := words_get t j (by simp only [List.length_cons] at h; omega)
  simp only [words, List.getElem?_cons_succ, this]
  rw [show 2 * (j + 1) = 2 * j + 1 + 1 from by omega]
  simp
def oadd (s x : Int) : Int := if s + x > 4294967295 then s + x - 4294967295 else s + x
def addw (s : Int) (ws : List Int) : Int := ws.foldl oadd s
def norm (n : Int) : Int := if n = 0 then 0 else (n - 1) % 65535 + 1
def isum : List Int → Int
 | [] => 0
 | x :: t => x + isum t
theorem isum_nonneg : ∀ l : List Int, IsW l → 0 ≤ isum l
 | [], _ => by simp [isum]
 | x :: t, h => by
  have := isum_nonneg t (fun y hy => h y (by simp [hy]))
  have := h x (by simp)
  simp only [isum]; omega
theorem norm_range (n : Int) (h : 0 ≤ n) : 0 ≤ norm n ∧ norm n ≤ 65535 := by unfold norm; split <;> omega
theorem norm_small {n : Int} (h0 : 0 ≤ n) (h : n ≤ 65535) : norm n = n := by unfold norm; split <;> omega
theorem oadd_range {s x : Int} (h0 : 0 ≤ s) (h1 : s ≤ 4294967295) (hx : 0 ≤ x ∧ x ≤ 65535) : 0 ≤ oadd s x ∧ oadd s x ≤ 4294967295 := by
 unfold oadd; split <;> omega
theorem oadd_norm {s x r : Int} (h0 : 0 ≤ s) (h1 : s ≤ 4294967295) (hx : 0 ≤ x ∧ x ≤ 65535) (hr : 0 ≤ r) : norm (oadd s x + r) = norm (s + x + r) := by
 unfold oadd norm
 split
 ·rw [if_neg (by omega), if_neg (by omega)]; omega
 ·rfl
theorem addw_range : ∀ (ws : List Int) (s : Int), 0 ≤ s → s ≤ 4294967295 → IsW ws → 0 ≤ addw s ws ∧ addw s ws ≤ 4294967295
 | [], s, h0, h1, _ => ⟨h0, h1⟩
 | x :: t, s, h0, h1, hw => by
  have hx := oadd_range h0 h1 (hw x (by simp))
  exact addw_range t (oadd s x) hx.1 hx.2 (fun y hy => hw y (by simp [hy]))
theorem addw_norm : ∀ (ws : List Int) (s r : Int), 0 ≤ s → s ≤ 4294967295 → IsW ws → 0 ≤ r → norm (addw s ws + r) = norm (s + isum ws + r)
 | [], s, r, h0, h1, _, hr => by simp [addw, isum]
 | x :: t, s, r, h0, h1, hw, hr => by
  have hx := oadd_range h0 h1 (hw x (by simp))
  have ht : IsW t := fun y hy => hw y (by simp [hy])
  have e := addw_norm t (oadd s x) r hx.1 hx.2 ht hr
  have hi := isum_nonneg t ht
  have e2 := oadd_norm (r := isum t + r) h0 h1 (hw x (by simp)) (by omega)
  show norm (addw (oadd s x) t + r) = norm (s + (x + isum t) + r)
  rw [e, show oadd s x + isum t + r = oadd s x + (isum t + r) from by omega, e2]
  congr 1; omega
theorem norm_addw (ws : List Int) (s : Int) (h0 : 0 ≤ s) (h1 : s ≤ 4294967295) (hw : IsW ws) : norm (addw s ws) = norm (s + isum ws) := by
 have := addw_norm ws s 0 h0 h1 hw (by omega)
 simpa using this
def ck (l : List Int) : Int := 65535 - norm (isum (words l))
theorem wraps_u16 (n : Int) (h₀ : 0 ≤ n) (h₁ : n < 2 ^ 16) : IntKind.u16.wrap n = n := by rw [IntKind.wrap_u16]; omega
theorem wraps_u32 (n : Int) (h₀ : 0 ≤ n) (h₁ : n < 2 ^ 32) : IntKind.u32.wrap n = n := by rw [IntKind.wrap_u32]; omega
theorem u16w {n : Int} (h₀ : 0 ≤ n) (h₁ : n ≤ 65535) : IntKind.u16.wrap n = n := wraps_u16 n h₀ (by omega)
theorem u64w {n : Int} (h₀ : 0 ≤ n) (h₁ : n ≤ 18446744073709551615) : IntKind.u64.wrap n = n := by rw [IntKind.wrap_u64]; omega
theorem and_u8 (i : Nat) (hi : i ≤ 8) {x : Int} (h₀ : 0 ≤ x) (h₁ : x ≤ 255) : Go.bits .and .u8 x (2 ^ i - 1) = x % 2 ^ i := bits_mask .u8 8 (by decide) wraps_u8 i hi x h₀ (by omega)
theorem and_u32 (i : Nat) (hi : i ≤ 32) {x : Int} (h₀ : 0 ≤ x) (h₁ : x ≤ 4294967295) : Go.bits .and .u32 x (2 ^ i - 1) = x % 2 ^ i := bits_mask .u32 32 (by decide) wraps_u32 i hi x h₀ (by omega)
theorem or_u8 (i : Nat) {x y : Int} (hx₀ : 0 ≤ x) (hx : x % 2 ^ i = 0) (hx₁ : x ≤ 255) (hy₀ : 0 ≤ y) (hy : y < 2 ^ i) (hy₁ : y ≤ 255) : Go.bits .or .u8 x y = x + y := bits_join .u8 8 (by decide) wraps_u8 i x y hx₀ hx (by omega) hy₀ hy (by omega)
theorem or_u16 (i : Nat) {x y : Int} (hx₀ : 0 ≤ x) (hx : x % 2 ^ i = 0) (hx₁ : x ≤ 65535) (hy₀ : 0 ≤ y) (hy : y < 2 ^ i) (hy₁ : y ≤ 65535) : Go.bits .or .u16 x y = x + y := bits_join .u16 16 (by decide) wraps_u16 i x y hx₀ hx (by omega) hy₀ hy (by omega)
theorem or_u32 (i : Nat) {x y : Int} (hx₀ : 0 ≤ x) (hx : x % 2 ^ i = 0) (hx₁ : x ≤ 4294967295) (hy₀ : 0 ≤ y) (hy : y < 2 ^ i) (hy₁ : y ≤ 4294967295) : Go.bits .or .u32 x y = x + y := bits_join .u32 32 (by decide) wraps_u32 i x y hx₀ hx (by omega) hy₀ hy (by omega)
theorem and_65535 {x : Int} (h₀ : 0 ≤ x) (h₁ : x ≤ 4294967295) : Go.bits .and .u32 x 65535 = x % 65536 := and_u32 16 (by decide) h₀ h₁
theorem join16 {a b : Int} (ha : 0 ≤ a ∧ a ≤ 255) (hb : 0 ≤ b ∧ b ≤ 255) : Go.bits .or .u16 (a * 256) b = a * 256 + b := or_u16 8 (by omega) (by omega) (by omega) (by omega) (by omega) (by omega)
theorem not_u16 {x : Int} (h₀ : 0 ≤ x) (h₁ : x ≤ 65535) : Go.bits .xor .u16 65535 x = 65535 - x := by
 obtain ⟨a, rfl⟩ := Int.eq_ofNat_of_zero_le h₀
 have ha : a < 65536 := by omega
 rw [show (65535 : Int) = ((65535 : Nat) : Int) from rfl, Go.u16_xor_nat 65535 a (by decide) ha]
 have : (65535 ^^^ a : Nat) = 65535 - a := by
  have h1 := BitVec.toNat_not (x := BitVec.ofNat 16 a)
  have h2 : (~~~ (BitVec.ofNat 16 a)) = BitVec.ofNat 16 65535 ^^^ BitVec.ofNat 16 a := by
   rw [show BitVec.ofNat 16 65535 = BitVec.allOnes 16 from rfl, BitVec.allOnes_xor]
  rw [h2, BitVec.toNat_xor, BitVec.toNat_ofNat, BitVec.toNat_ofNat, Nat.mod_eq_of_lt (show 65535 < 2 ^ 16 from by decide), Nat.mod_eq_of_lt (show a < 2 ^ 16 from ha)] at h1
  rw [h1]
 rw [this]
 omega
theorem wrap64_id {n : Int} (h₀ : -9223372036854775808 ≤ n) (h₁ : n ≤ 9223372036854775807) : wrap64 n = n := by unfold wrap64; omega
end Go.Proofs.Ytkmimamminddiaa.Spec
/- Numbers out of bytes, and bytes of numbers: what the printed helps of the references come to. -/
namespace Go.Proofs.Ytkmimamminddiaa.BytesEq
set_option linter.unusedVariables false
set_option linter.unusedSimpArgs false
open Go.RowKit Go.Proofs.Ytkmimamminddiaa.PB Go.Proofs.YtkmimamminddiaaW.PrintWords Go.Proofs.YtkmimamminddiaaW.PrintLast Go.Proofs.Ytkmimamminddiaa.Spec
theorem rd_nat (l : List Int) (i : Int) (j : Nat) (h : i = (j : Int)) : rd l i = l.getD j 0 := by subst h; simp [rd]
theorem u8_wf {x : Int} (h : (Lit.int .u8 x).wf = true) : 0 ≤ x ∧ x ≤ 255 := by
 simp [Lit.wf, IntKind.min, IntKind.max, IntKind.bits, IntKind.signed] at h; omega
theorem isB_wf {l : List Int} (h : ∀ x ∈ l, (Lit.int .u8 x).wf = true) : IsB l := fun x hx => u8_wf (h x hx)
def g16 (l : List Int) (i : Nat) : Int := l.getD i 0 * 256 + l.getD (i + 1) 0
def g32 (l : List Int) (i : Nat) : Int := g16 l i * 65536 + g16 l (i + 2)
theorem g16_range {l : List Int} (h : IsB l) (i : Nat) : 0 ≤ g16 l i ∧ g16 l i ≤ 65535 := by
 have h1 := h.getD i
 have h2 := h.getD (i + 1)
 unfold g16; omega
theorem g32_range {l : List Int} (h : IsB l) (i : Nat) : 0 ≤ g32 l i ∧ g32 l i ≤ 4294967295 := by
 have h1 := g16_range h i
 have h2 := g16_range h (i + 2)
 unfold g32; omega
theorem word16 {a b : Int} (ha : 0 ≤ a ∧ a ≤ 255) (hb : 0 ≤ b ∧ b ≤ 255) : Go.bits .or .u16 (IntKind.u16.wrap ((IntKind.u16.wrap a) * 256)) (IntKind.u16.wrap b) = a * 256 + b := by
 rw [u16w (n := a) (by omega) (by omega), u16w (n := a * 256) (by omega) (by omega), u16w (n := b) (by omega) (by omega), join16 ha hb]
theorem word32 {a b : Int} (ha : 0 ≤ a ∧ a ≤ 65535) (hb : 0 ≤ b ∧ b ≤ 65535) : Go.bits .or .u32 (((a % 4294967296) * 65536) % 4294967296) (b % 4294967296) = a * 65536 + b := by
 rw [show a % 4294967296 = a from by omega, show (a * 65536) % 4294967296 = a * 65536 from by omega, show b % 4294967296 = b from by omega]
 exact or_u32 16 (by omega) (by omega) (by omega) (by omega) (by omega) (by omega)
theorem get16_eq {l : List Int} (h : IsB l) (i : Nat) (hi : i + 2 ≤ l.length) (hl : l.length ≤ 1000000000) : lychref1_Get16.f l (i : Int) = some (g16 l i) := by
 unfold lychref1_Get16.f
 have e : wrap64 ((i : Int) + 1) = ((i + 1 : Nat) : Int) := by rw [wrap64_id (by omega) (by omega)]; omega
 rw [e, if_pos (by omega), if_pos (by omega), if_pos (by omega), if_pos (by omega), rd_nat l _ i rfl, rd_nat l _ (i + 1) rfl, word16 (h.getD i) (h.getD (i + 1))]
 rfl
theorem cut_eq (l : List Int) (a b : Nat) (h1 : a ≤ b) (h2 : b ≤ l.length) (hl : l.length ≤ 1000000000) : lychref1_cut.f l (a : Int) (b : Int) = some ((l.take b).drop a) := by
 unfold lychref1_cut.f
 have hlen : ((l.take b).drop a).length ≤ l.length := by rw [List.length_drop, List.length_take]; omega
 rw [if_pos (by omega), if_pos (by omega), if_pos (by omega)]
 simp only [Int.toNat_natCast, List.length_nil, Nat.zero_add, List.nil_append]
 rw [if_pos (by omega)]
theorem clone_eq (l : List Int) (hl : l.length ≤ 1000000000) : slices_Clone_byte_byte.f l = some l := by
 unfold slices_Clone_byte_byte.f
 rw [if_pos (by omega)]
theorem bytes_refl (l : List Int) : lychhelp_Bytes.f l l = some true := by
 unfold lychhelp_Bytes.f
 simp
end Go.Proofs.Ytkmimamminddiaa.BytesEq
/- Numbers of 32 bits out of bytes. -/
namespace Go.Proofs.Ytkmimamminddiaa.BytesEq
set_option linter.unusedVariables false
set_option linter.unusedSimpArgs false
open Go.RowKit Go.Proofs.Ytkmimamminddiaa.PB Go.Proofs.YtkmimamminddiaaW.PrintWords Go.Proofs.YtkmimamminddiaaW.PrintLast Go.Proofs.Ytkmimamminddiaa.Spec
theorem get32_eq {l : List Int} (h : IsB l) (i : Nat) (hi : i + 4 ≤ l.length) (hl : l.length ≤ 1000000000) : lychref1_Get32.f l (i : Int) = some (g32 l i) := by
 unfold lychref1_Get32.f
 have e : wrap64 ((i : Int) + 2) = ((i + 2 : Nat) : Int) := by rw [wrap64_id (by omega) (by omega)]; omega
 rw [e, get16_eq h i (by omega) hl, get16_eq h (i + 2) (by omega) hl]
 simp only [Option.bind_some]
 rw [word32 (g16_range h i) (g16_range h (i + 2))]
 rfl
end Go.Proofs.Ytkmimamminddiaa.BytesEq
/- Plain: PureTcpsR, PureTcps. -/
namespace Go.Proofs.Ytkmimamminddiaa.Pure
set_option linter.unusedVariables false
set_option linter.unusedSimpArgs false
open Go.RowKit Go.Proofs.Ytkmimamminddiaa.PB Go.Proofs.YtkmimamminddiaaW.PrintWords Go.Proofs.YtkmimamminddiaaW.PrintLast
open Go.Proofs.Ytkmimamminddiaa.Spec Go.Proofs.Ytkmimamminddiaa.BytesEq
def thead (s d q a f w c u : Int) (o : List Int) : List Int := [s / 256 % 256, s % 256, d / 256 % 256, d % 256, q / 16777216 % 256, q / 65536 % 256, q / 256 % 256, q % 256, a / 16777216 % 256, a / 65536 % 256, a / 256 % 256, a % 256, (20 + (o.length : Int)) / 4 * 16 % 256, f, w / 256 % 256, w % 256, c / 256 % 256, c % 256, u / 256 % 256, u % 256]
def tbytes (s d q a f w c u : Int) (o l : List Int) : List Int := thead s d q a f w c u o ++ (o ++ l)
def tout (s d q a f w c u : Int) (o l : List Int) : List Int × Int := if (o.length : Int) % 4 ≠ 0 ∨ (o.length : Int) > 40 then ([], 21) else if 20 + (o.length : Int) + (l.length : Int) > 65515 then ([], 23) else (tbytes s d q a f w c u o l, 0)
theorem rtbytes_eq {s d q a f w c u : Int} {o l : List Int} (ho : o.length ≤ 1000000000) (hl : l.length ≤ 1000000000) (k : Nat) (hk : 30 ≤ k) : lychref1_TcpBytes.f k s d q a f w c u o l = some (tout s d q a f w c u o l) := by
 obtain ⟨k, rfl⟩ : ∃ j, k = j + 30 := ⟨k - 30, by omega⟩
 have w1 : wrap64 (20 + (o.length : Int)) = 20 + (o.length : Int) := wrap64_id (by omega) (by omega)
 unfold lychref1_TcpBytes.f tout
 by_cases c1 : (o.length : Int) % 4 = 0
 ·rw [if_pos c1]
  by_cases c2 : (o.length : Int) > 40
  ·rw [decide_eq_true c2, if_pos (.inr c2), lychref1_TcpBytes.j0, if_pos rfl]
  ·have w2 : wrap64 (65515 - (20 + (o.length : Int))) = 65515 - (20 + (o.length : Int)) := wrap64_id (by omega) (by omega)
   rw [decide_eq_false c2, if_neg (by omega), lychref1_TcpBytes.j0, if_neg (by decide), w1, w2]
   by_cases c3 : 20 + (o.length : Int) + (l.length : Int) > 65515
   ·rw [if_pos (by omega), if_pos c3]
   ·have w3 : wrap64 (Int.tdiv (20 + (o.length : Int)) 4) = (20 + (o.length : Int)) / 4 := by rw [Int.tdiv_eq_ediv_of_nonneg (by omega), wrap64_id (by omega) (by omega)]
    have e : (20 + (o.length : Int)) / 4 % 256 * 16 % 256 = (20 + (o.length : Int)) / 4 * 16 % 256 := by omega
    rw [if_neg (by omega), if_neg c3, w3, e]
    unfold lychref1_Put16.f lychref1_Put32.f
    rw [Option.bind_some, if_pos (by simp), Option.bind_some, Option.bind_some, if_pos (by simp), Option.bind_some, Option.bind_some, if_pos (by simp), Option.bind_some, Option.bind_some, if_pos (by simp), Option.bind_some, Option.bind_some, if_pos (by simp), Option.bind_some, if_pos (by simp), Option.bind_some, Option.bind_some, if_pos (by simp), Option.bind_some, Option.bind_some, if_pos (by simp), Option.bind_some, if_pos (by simp; omega), Option.bind_some, if_pos (by simp; omega), List.append_assoc]
    rfl
 ·rw [if_neg c1, if_pos (.inl c1), lychref1_TcpBytes.j0, if_pos rfl]
theorem thead_isB {s d q a f w c u : Int} {o : List Int} (hf : 0 ≤ f ∧ f ≤ 255) : IsB (thead s d q a f w c u o) := by
 unfold thead
 repeat (first | exact .nil | refine .cons (by omega) ?_)
theorem thead_length (s d q a f w c u : Int) (o : List Int) : (thead s d q a f w c u o).length = 20 := rfl
end Go.Proofs.Ytkmimamminddiaa.Pure
/- What the printed functions of the checksum come to: the plain words, sums and folds. -/
namespace Go.Proofs.Ytkmimamminddiaa.SumEq
set_option linter.unusedVariables false
set_option linter.unusedSimpArgs false
open Go.RowKit Go.Proofs.Ytkmimamminddiaa.PB Go.Proofs.YtkmimamminddiaaW.PrintWords Go.Proofs.YtkmimamminddiaaW.PrintLast Go.Proofs.Ytkmimamminddiaa.Spec
theorem rd_at (l : List Int) (i : Int) (j : Nat) (h : i = (j : Int)) : rd l i = l.getD j 0 := by subst h; simp [rd]
theorem take_words (l : List Int) (j : Nat) (h : 2 * j < l.length) : (words l).take (j + 1) = (words l).take j ++ [l.getD (2 * j) 0 * 256 + l.getD (2 * j + 1) 0] := by
 have hl := words_length l
 have hg := words_get l j h
 have hj : j < (words l).length := by omega
 rw [List.getElem?_eq_getElem hj] at hg
 injection hg with hg
 rw [List.take_succ_eq_append_getElem hj, hg]
theorem words_l0 (l : List Int) (hb : IsB l) (hl : l.length ≤ 1000000000) (d : Nat) : ∀ (k j : Nat), j + d = (l.length + 1) / 2 → d < k →
  sum_Words.l0 k l ((words l).take j) (((l.length + 1) / 2 : Nat) : Int) (j : Int) = some (words l) := by
 induction d with
 | zero =>
  intro k j hj hk
  obtain ⟨k, rfl⟩ : ∃ m, k = m + 1 := ⟨k - 1, by omega⟩
  simp only [sum_Words.l0]
  rw [if_neg (by omega), List.take_of_length_le (by rw [words_length]; omega)]
 | succ d ih =>
  intro k j hj hk
  obtain ⟨k, rfl⟩ : ∃ m, k = m + 1 := ⟨k - 1, by omega⟩
  have e2 : wrap64 (2 * (j : Int)) = ((2 * j : Nat) : Int) := by rw [wrap64_id (by omega) (by omega)]; omega
  have e3 : wrap64 (((2 * j : Nat) : Int) + 1) = ((2 * j + 1 : Nat) : Int) := by rw [wrap64_id (by omega) (by omega)]; omega
  have e1 : wrap64 ((j : Int) + 1) = ((j + 1 : Nat) : Int) := by rw [wrap64_id (by omega) (by omega)]; omega
  have h1 := hb.getD (2 * j)
  have h2 := hb.getD (2 * j + 1)
  have hlen : ((words l).take j).length < 70368744177664 := by rw [List.length_take, words_length]; omega
  have ht := take_words l j (by omega)
  have hi := ih k (j + 1) (by omega) (by omega)
  simp only [sum_Words.l0, e2, e3, e1]
  rw [if_pos (by omega), if_pos (by omega), if_pos (by omega), rd_at l _ (2 * j) rfl, rd_at l _ (2 * j + 1) rfl]
  rw [u16w (by omega) (by omega : l.getD (2 * j) 0 ≤ 65535), u16w (by omega) (by omega : l.getD (2 * j) 0 * 256 ≤ 65535), u16w (by omega) (by omega : l.getD (2 * j + 1) 0 ≤ 65535), join16 h1 h2]
  by_cases hc : 2 * j + 1 < l.length
  ·rw [if_pos (by omega), if_pos (by omega), if_pos hlen, ← ht]
   exact hi
  ·have h0 : l.getD (2 * j + 1) 0 = 0 := by rw [List.getD_eq_getElem?_getD, List.getElem?_eq_none (by omega)]; rfl
   rw [if_neg (by omega), if_pos hlen]
   rw [h0, Int.add_zero] at ht
   rw [← ht]
   exact hi
theorem words_eq (l : List Int) (hb : IsB l) (hl : l.length ≤ 1000000000) (k : Nat) (hk : l.length + 1 < k) : sum_Words.f k l = some (words l) := by
 have h := words_l0 l hb hl ((l.length + 1) / 2) k 0 (by omega) (by omega)
 unfold sum_Words.f
 have e : wrap64 (Int.tdiv (wrap64 ((l.length : Int) + 1)) 2) = (((l.length + 1) / 2 : Nat) : Int) := by
  rw [wrap64_id (n := (l.length : Int) + 1) (by omega) (by omega), Int.tdiv_eq_ediv_of_nonneg (by omega), wrap64_id (by omega) (by omega)]; omega
 rw [e]
 simpa using h
theorem Add32_eq {a b : Int} (ha : 0 ≤ a ∧ a ≤ 4294967295) (hb : 0 ≤ b ∧ b ≤ 65535) : bits_Add32.f a b 0 = some ((a + b) % 4294967296, (a + b) / 4294967296) := by
 unfold bits_Add32.f
 rw [u64w ha.1 (by omega), u64w hb.1 (by omega), u64w (n := a + b) (by omega) (by omega), u64w (n := (0 : Int)) (by omega) (by omega), u64w (n := a + b + 0) (by omega) (by omega)]
 rw [Int.add_zero, show ((a + b) / 4294967296) % 4294967296 = (a + b) / 4294967296 from by omega]
theorem add_l0 (ws : List Int) (hw : IsW ws) (hl : ws.length ≤ 1000000000) (d : Nat) : ∀ (k j : Nat) (s : Int), j + d = ws.length → d < k → 0 ≤ s → s ≤ 4294967295 →
  sum_Add.l0 k s ws (ws.length : Int) (j : Int) = some (addw s (ws.drop j)) := by
 induction d with
 | zero =>
  intro k j s hj hk h0 h1
  obtain ⟨k, rfl⟩ : ∃ m, k = m + 1 := ⟨k - 1, by omega⟩
  simp only [sum_Add.l0]
  rw [if_neg (by omega), List.drop_of_length_le (by omega)]
  rfl
 | succ d ih =>
  intro k j s hj hk h0 h1
  obtain ⟨k, rfl⟩ : ∃ m, k = m + 1 := ⟨k - 1, by omega⟩
  have hjl : j < ws.length := by omega
  have hx := hw _ (List.getElem_mem hjl)
  have e1 : wrap64 ((j : Int) + 1) = ((j + 1 : Nat) : Int) := by rw [wrap64_id (by omega) (by omega)]; omega
  have er : rd ws (j : Int) = ws[j] := by rw [rd_at ws _ j rfl, List.getD_eq_getElem?_getD, List.getElem?_eq_getElem hjl]; rfl
  have ho := oadd_range h0 h1 hx
  have hi := ih k (j + 1) (oadd s ws[j]) (by omega) (by omega) ho.1 ho.2
  simp only [sum_Add.l0, e1, er]
  rw [if_pos (by omega), if_pos (by omega), if_pos (by omega), show ws[j] % 4294967296 = ws[j] from by omega, Add32_eq ⟨h0, h1⟩ hx]
  simp only [Option.bind_some]
  have eo : ((s + ws[j]) % 4294967296 + (s + ws[j]) / 4294967296) % 4294967296 = oadd s ws[j] := by unfold oadd; split <;> omega
  rw [eo, hi, List.drop_eq_getElem_cons hjl]
  rfl
theorem add_eq (s : Int) (l : List Int) (hb : IsB l) (hl : l.length ≤ 1000000000) (h0 : 0 ≤ s) (h1 : s ≤ 4294967295) (k : Nat) (hk : l.length + 1 < k) : sum_Add.f k s l = some (addw s (words l)) := by
 unfold sum_Add.f
 rw [words_eq l hb hl k hk]
 have hwl := words_length l
 have := add_l0 (words l) (words_isW l hb) (by omega) (words l).length k 0 s (by omega) (by omega) h0 h1
 simpa using this
theorem fold_small {k : Nat} {s : Int} (h0 : 0 ≤ s) (h1 : s ≤ 65535) : sum_Fold.l0 (k + 1) s = some s := by
 simp only [sum_Fold.l0]
 rw [if_pos (by omega), u16w h0 h1]
theorem fold_step {k : Nat} {s : Int} (h0 : 65536 ≤ s) (h1 : s ≤ 4294967295) : sum_Fold.l0 (k + 1) s = sum_Fold.l0 k (s % 65536 + s / 65536) := by
 simp only [sum_Fold.l0]
 rw [if_neg (by omega), and_65535 (by omega) h1, show (s % 65536 + s / 65536) % 4294967296 = s % 65536 + s / 65536 from by omega]
theorem fold_eq (s : Int) (h0 : 0 ≤ s) (h1 : s ≤ 4294967295) (k : Nat) (hk : 3 < k) : sum_Fold.f k s = some (norm s) := by
 obtain ⟨k, rfl⟩ : ∃ m, k = m + 3 := ⟨k - 3, by omega⟩
 unfold sum_Fold.f
 by_cases c : s ≤ 65535
 ·rw [fold_small h0 c, norm_small h0 c]
 ·rw [fold_step (by omega) h1]
  by_cases c2 : s % 65536 + s / 65536 ≤ 65535
  ·rw [fold_small (by omega) c2]
   congr 1; unfold norm; rw [if_neg (by omega)]; omega
  ·rw [fold_step (by omega) (by omega), fold_small (by omega) (by omega)]
   congr 1; unfold norm; rw [if_neg (by omega)]; omega
theorem rwords_l0 (l : List Int) (hb : IsB l) (hl : l.length ≤ 1000000000) (d : Nat) : ∀ (k j : Nat), j + d = (l.length + 1) / 2 → d < k →
  lychref1_Words.l0 k l ((words l).take j) ((2 * j : Nat) : Int) = some (words l) := by
 induction d with
 | zero =>
  intro k j hj hk
  obtain ⟨k, rfl⟩ : ∃ m, k = m + 1 := ⟨k - 1, by omega⟩
  simp only [lychref1_Words.l0]
  rw [if_neg (by omega), List.take_of_length_le (by rw [words_length]; omega)]
 | succ d ih =>
  intro k j hj hk
  obtain ⟨k, rfl⟩ : ∃ m, k = m + 1 := ⟨k - 1, by omega⟩
  have e3 : wrap64 (((2 * j : Nat) : Int) + 1) = ((2 * j + 1 : Nat) : Int) := by rw [wrap64_id (by omega) (by omega)]; omega
  have e1 : wrap64 (((2 * j : Nat) : Int) + 2) = ((2 * (j + 1) : Nat) : Int) := by rw [wrap64_id (by omega) (by omega)]; omega
  have h1 := hb.getD (2 * j)
  have h2 := hb.getD (2 * j + 1)
  have hlen : ((words l).take j).length < 70368744177664 := by rw [List.length_take, words_length]; omega
  have ht := take_words l j (by omega)
  have hi := ih k (j + 1) (by omega) (by omega)
  simp only [lychref1_Words.l0, e3, e1]
  rw [if_pos (by omega), if_pos (by omega), rd_at l _ (2 * j) rfl, rd_at l _ (2 * j + 1) rfl]
  rw [u16w (by omega) (by omega : l.getD (2 * j) 0 ≤ 65535), u16w (by omega) (by omega : l.getD (2 * j) 0 * 256 ≤ 65535), u16w (by omega) (by omega : l.getD (2 * j + 1) 0 ≤ 65535), join16 h1 h2]
  by_cases hc : 2 * j + 1 < l.length
  ·rw [if_pos (by omega), if_pos (by omega), if_pos hlen, ← ht]
   exact hi
  ·have h0 : l.getD (2 * j + 1) 0 = 0 := by rw [List.getD_eq_getElem?_getD, List.getElem?_eq_none (by omega)]; rfl
   rw [if_neg (by omega), if_pos hlen]
   rw [h0, Int.add_zero] at ht
   rw [← ht]
   exact hi
theorem rwords_eq (l : List Int) (hb : IsB l) (hl : l.length ≤ 1000000000) (k : Nat) (hk : l.length + 1 < k) : lychref1_Words.f k l = some (words l) := by
 have h := rwords_l0 l hb hl ((l.length + 1) / 2) k 0 (by omega) (by omega)
 unfold lychref1_Words.f
 simpa using h
theorem radd_l0 (ws : List Int) (hw : IsW ws) (hl : ws.length ≤ 1000000000) (d : Nat) : ∀ (k j : Nat) (s : Int), j + d = ws.length → d < k → 0 ≤ s → s ≤ 4294967295 →
  lychref1_Add.l0 k s ws (j : Int) = some (addw s (ws.drop j)) := by
 induction d with
 | zero =>
  intro k j s hj hk h0 h1
  obtain ⟨k, rfl⟩ : ∃ m, k = m + 1 := ⟨k - 1, by omega⟩
  simp only [lychref1_Add.l0]
  rw [if_neg (by omega), List.drop_of_length_le (by omega), show s % 4294967296 = s from by omega]
  rfl
 | succ d ih =>
  intro k j s hj hk h0 h1
  obtain ⟨k, rfl⟩ : ∃ m, k = m + 1 := ⟨k - 1, by omega⟩
  have hjl : j < ws.length := by omega
  have hx := hw _ (List.getElem_mem hjl)
  have e1 : wrap64 ((j : Int) + 1) = ((j + 1 : Nat) : Int) := by rw [wrap64_id (by omega) (by omega)]; omega
  have er : rd ws (j : Int) = ws[j] := by rw [rd_at ws _ j rfl, List.getD_eq_getElem?_getD, List.getElem?_eq_getElem hjl]; rfl
  have ho := oadd_range h0 h1 hx
  have hi := ih k (j + 1) (oadd s ws[j]) (by omega) (by omega) ho.1 ho.2
  simp only [lychref1_Add.l0, e1, er]
  rw [if_pos (by omega), if_pos (by omega), u64w (n := ws[j]) (by omega) (by omega), u64w (n := s + ws[j]) (by omega) (by omega)]
  rw [List.drop_eq_getElem_cons hjl]
  show _ = some (addw (oadd s ws[j]) (ws.drop (j + 1)))
  rw [← hi]
  by_cases hc : s + ws[j] > 4294967295
  ·rw [if_pos hc]
   congr 1
   rw [IntKind.wrap_u64, IntKind.wrap_u64]
   unfold oadd; rw [if_pos hc]; omega
  ·rw [if_neg hc]
   congr 1; unfold oadd; rw [if_neg hc]
theorem radd_eq (s : Int) (l : List Int) (hb : IsB l) (hl : l.length ≤ 1000000000) (h0 : 0 ≤ s) (h1 : s ≤ 4294967295) (k : Nat) (hk : l.length + 1 < k) : lychref1_Add.f k s l = some (addw s (words l)) := by
 unfold lychref1_Add.f
 rw [rwords_eq l hb hl k hk]
 have hwl := words_length l
 have := radd_l0 (words l) (words_isW l hb) (by omega) (words l).length k 0 s (by omega) (by omega) h0 h1
 simp only [Option.bind_some, u64w h0 (show s ≤ 18446744073709551615 from by omega)]
 simpa using this
theorem rfold_eq (s : Int) (h0 : 0 ≤ s) (h1 : s ≤ 4294967295) (k : Nat) (hk : 3 < k) : lychref1_Fold.f k s = some (norm s) := by
 have hs : ∀ {k : Nat} {s : Int}, 0 ≤ s → s ≤ 65535 → lychref1_Fold.l0 (k + 1) s = some s := by
  intro k s h0 h1
  simp only [lychref1_Fold.l0]
  rw [if_pos (by omega), u16w h0 h1]
 have ht : ∀ {k : Nat} {s : Int}, 65536 ≤ s → s ≤ 4294967295 → lychref1_Fold.l0 (k + 1) s = lychref1_Fold.l0 k (s / 65536 + s % 65536) := by
  intro k s h0 h1
  simp only [lychref1_Fold.l0]
  rw [if_neg (by omega), and_65535 (by omega) h1, show (s / 65536 + s % 65536) % 4294967296 = s / 65536 + s % 65536 from by omega]
 obtain ⟨k, rfl⟩ : ∃ m, k = m + 3 := ⟨k - 3, by omega⟩
 unfold lychref1_Fold.f
 by_cases c : s ≤ 65535
 ·rw [hs h0 c, norm_small h0 c]
 ·rw [ht (by omega) h1]
  by_cases c2 : s / 65536 + s % 65536 ≤ 65535
  ·rw [hs (by omega) c2]
   congr 1; unfold norm; rw [if_neg (by omega)]; omega
  ·rw [ht (by omega) (by omega), hs (by omega) (by omega)]
   congr 1; unfold norm; rw [if_neg (by omega)]; omega
end Go.Proofs.Ytkmimamminddiaa.SumEq
/- The sum of what stands ahead in thought. -/
namespace Go.Proofs.Ytkmimamminddiaa.SumEq
set_option linter.unusedVariables false
set_option linter.unusedSimpArgs false
open Go.RowKit Go.Proofs.Ytkmimamminddiaa.PB Go.Proofs.YtkmimamminddiaaW.PrintWords Go.Proofs.YtkmimamminddiaaW.PrintLast Go.Proofs.Ytkmimamminddiaa.Spec
theorem pseudo_eq (a b c n : Int) (ha : 0 ≤ a ∧ a ≤ 4294967295) (hb : 0 ≤ b ∧ b ≤ 4294967295) (hc : 0 ≤ c ∧ c ≤ 255) (k : Nat) (hk : 3 < k) :
  sum_Pseudo.f k a b c n = some (norm (a / 65536 + a % 65536 + b / 65536 + b % 65536 + c + n % 65536)) := by
 unfold sum_Pseudo.f
 rw [and_65535 ha.1 ha.2, and_65535 hb.1 hb.2, IntKind.wrap_u16, fold_eq _ (by omega) (by omega) k hk]
 simp only [Option.bind_some]
 have := norm_range (a / 65536 + a % 65536 + b / 65536 + b % 65536 + c + n % 65536) (by omega)
 rw [show (a / 65536 + a % 65536 + b / 65536 + b % 65536 + c + n % 65536) % 4294967296 = a / 65536 + a % 65536 + b / 65536 + b % 65536 + c + n % 65536 from by omega]
 congr 1; omega
theorem rpseudo_eq (a b c n : Int) (ha : 0 ≤ a ∧ a ≤ 4294967295) (hb : 0 ≤ b ∧ b ≤ 4294967295) (hc : 0 ≤ c ∧ c ≤ 255) (k : Nat) (hk : 3 < k) :
  lychref1_Pseudo.f k a b c n = some (norm (a / 65536 + a % 65536 + b / 65536 + b % 65536 + c + n % 65536)) := by
 have e64 : Go.bits .and .u64 (IntKind.u64.wrap n) 65535 = n % 65536 := by
  rw [IntKind.wrap_u64, show (65535 : Int) = 2 ^ 16 - 1 from by decide, bits_mask .u64 64 (by decide) (fun m h0 h1 => by rw [IntKind.wrap_u64]; omega) 16 (by decide) _ (by omega) (by omega)]
  omega
 unfold lychref1_Pseudo.f
 rw [and_65535 ha.1 ha.2, and_65535 hb.1 hb.2, e64, rfold_eq _ (by omega) (by omega) k hk]
 simp only [Option.bind_some]
 have := norm_range (a / 65536 + a % 65536 + b / 65536 + b % 65536 + c + n % 65536) (by omega)
 rw [show (a / 65536 + a % 65536 + b / 65536 + b % 65536 + c + n % 65536) % 4294967296 = a / 65536 + a % 65536 + b / 65536 + b % 65536 + c + n % 65536 from by omega]
 congr 1; omega
end Go.Proofs.Ytkmimamminddiaa.SumEq
namespace Go.Proofs.Ytkmimamminddiaa.PB
open Go.RowKit Go.Proofs.YtkmimamminddiaaW.PrintWords Go.Proofs.YtkmimamminddiaaW.PrintLast Go.Proofs.YtkmimamminddiaaW.PrintMore
attribute [local go_sem] max2_int min2_int max_two min_two max_three min_three max_four min_four   -- for this text's walks alone
set_option linter.unusedVariables false
set_option linter.unusedSimpArgs false
theorem eqA65 (d : Nat) (w : World) (x0 y0 : Int) (x1 y1 : Int) :
  (Op.equalIn (d + 2) 65 (.agg #[.int .u32 x0, .int .u16 x1]) (.agg #[.int .u32 y0, .int .u16 y1])).run Try.prog w = .ok (x0 == y0 && (x1 == y1)) w := by
 refine eqA_of Try.underlying65 (by kernel_rfl) ?_
 refine eqf_cons (by rfl) (by go_simp; rfl) (by go_simp; rfl) (by go_simp) ?_
 exact eqf_last (by rfl) (by go_simp; rfl) (by go_simp; rfl) (by go_simp)
end Go.Proofs.Ytkmimamminddiaa.PB
namespace Go.Proofs.Ytkmimamminddiaa.PB
open Go.RowKit Go.Proofs.YtkmimamminddiaaW.PrintWords Go.Proofs.YtkmimamminddiaaW.PrintLast Go.Proofs.YtkmimamminddiaaW.PrintMore
attribute [local go_sem] max2_int min2_int max_two min_two max_three min_three max_four min_four   -- for this text's walks alone
set_option linter.unusedVariables false
set_option linter.unusedSimpArgs false
attribute [local go_sem high] eqA65
end Go.Proofs.Ytkmimamminddiaa.PB
/- Plain: segments' sums. -/
namespace Go.Proofs.Ytkmimamminddiaa.Pure
set_option linter.unusedVariables false
set_option linter.unusedSimpArgs false
open Go.RowKit Go.Proofs.Ytkmimamminddiaa.PB Go.Proofs.YtkmimamminddiaaW.PrintWords Go.Proofs.YtkmimamminddiaaW.PrintLast
open Go.Proofs.Ytkmimamminddiaa.Spec Go.Proofs.Ytkmimamminddiaa.BytesEq
def tT (a b : Int) (x : List Int) : Int := norm (a / 65536 + a % 65536 + b / 65536 + b % 65536 + 6 + (x.length : Int) % 65536) + isum (words x)
theorem tT_nonneg {a b : Int} {x : List Int} (ha : 0 ≤ a) (hb : 0 ≤ b) (h : IsB x) : 0 ≤ tT a b x := by
 have h1 := norm_range (a / 65536 + a % 65536 + b / 65536 + b % 65536 + 6 + (x.length : Int) % 65536) (by omega)
 have h2 := isum_nonneg _ (words_isW x h)
 unfold tT
 omega
theorem tbytes_isB {s d q k f w c u : Int} {o l : List Int} (hf : 0 ≤ f ∧ f ≤ 255) (ho : IsB o) (hl : IsB l) : IsB (tbytes s d q k f w c u o l) := (thead_isB hf).append (ho.append hl)
theorem tbytes_length (s d q k f w c u : Int) (o l : List Int) : (tbytes s d q k f w c u o l).length = 20 + o.length + l.length := by
 unfold tbytes
 rw [List.length_append, List.length_append, thead_length]
 omega
section
variable {a b s d q k f w c u : Int} {o l : List Int}
theorem tout_ok (h4 : (o.length : Int) % 4 = 0) (h40 : (o.length : Int) ≤ 40) (hl : (l.length : Int) ≤ 3000) : tout s d q k f w c u o l = (tbytes s d q k f w c u o l, 0) := by
 unfold tout
 rw [if_neg (by omega), if_neg (by omega)]
theorem tfold (ha : 0 ≤ a ∧ a ≤ 4294967295) (hb : 0 ≤ b ∧ b ≤ 4294967295) {x : List Int} (hx : IsB x) (hl : x.length ≤ 3100) (K : Nat) (hK : 4000 ≤ K) : ((sum_Pseudo.f K a b 6 (x.length : Int)).bind fun t => (sum_Add.f K t x).bind fun t2 => sum_Fold.f K t2) = some (norm (tT a b x)) ∧ ((lychref1_Pseudo.f K a b 6 (x.length : Int)).bind fun t => (lychref1_Add.f K t x).bind fun t2 => lychref1_Fold.f K t2) = some (norm (tT a b x)) := by
 have hp := norm_range (a / 65536 + a % 65536 + b / 65536 + b % 65536 + 6 + (x.length : Int) % 65536) (by omega)
 have hr := addw_range (words x) _ hp.1 (by omega) (words_isW _ hx)
 have hn := norm_addw (words x) _ hp.1 (by omega) (words_isW _ hx)
 constructor
 ·rw [SumEq.pseudo_eq a b 6 _ ha hb (by omega) K (by omega), Option.bind_some, SumEq.add_eq _ _ hx (by omega) hp.1 (by omega) K (by omega), Option.bind_some, SumEq.fold_eq _ hr.1 hr.2 K (by omega), hn]
  rfl
 ·rw [SumEq.rpseudo_eq a b 6 _ ha hb (by omega) K (by omega), Option.bind_some, SumEq.radd_eq _ _ hx (by omega) hp.1 (by omega) K (by omega), Option.bind_some, SumEq.rfold_eq _ hr.1 hr.2 K (by omega), hn]
  rfl
theorem rtsum_eq (ha : 0 ≤ a ∧ a ≤ 4294967295) (hb : 0 ≤ b ∧ b ≤ 4294967295) (hf : 0 ≤ f ∧ f ≤ 255) (ho : IsB o) (h4 : (o.length : Int) % 4 = 0) (h40 : (o.length : Int) ≤ 40) (h : IsB l) (hl : (l.length : Int) ≤ 3000) (K : Nat) (hK : 4000 ≤ K) : lychref1_TcpSum.f K a b s d q k f w c u o l = some (65535 - norm (tT a b (tbytes s d q k f w 0 u o l))) := by
 have hL := tbytes_length s d q k f w 0 u o l
 have hn := norm_range _ (tT_nonneg ha.1 hb.1 (tbytes_isB (s := s) (d := d) (q := q) (k := k) (w := w) (c := 0) (u := u) hf ho h))
 obtain ⟨x, hx⟩ : ∃ x, x = tbytes s d q k f w 0 u o l := ⟨_, rfl⟩
 have hB : IsB x := by rw [hx]; exact tbytes_isB hf ho h
 have h1 := (tfold ha hb hB (by rw [hx]; omega) K hK).2
 unfold lychref1_TcpSum.f
 rw [← hx] at hn ⊢
 rw [rtbytes_eq (by omega) (by omega) K (by omega), tout_ok h4 h40 hl, ← hx, Option.bind_some]
 obtain ⟨t1, e1, h1⟩ := Option.bind_eq_some_iff.1 h1
 obtain ⟨t2, e2, h1⟩ := Option.bind_eq_some_iff.1 h1
 dsimp only
 rw [if_pos rfl, e1, Option.bind_some, e2, Option.bind_some, h1, Option.bind_some, show (IntKind.u16.max : Int) = 65535 from rfl, not_u16 hn.1 hn.2]
end
end Go.Proofs.Ytkmimamminddiaa.Pure
namespace Go.Proofs.Ytkmimamminddiaa.PB
open Go.RowKit Go.Proofs.YtkmimamminddiaaW.PrintWords Go.Proofs.YtkmimamminddiaaW.PrintLast Go.Proofs.YtkmimamminddiaaW.PrintMore
attribute [local go_sem] max2_int min2_int max_two min_two max_three min_three max_four min_four   -- for this text's walks alone
set_option linter.unusedVariables false
set_option linter.unusedSimpArgs false
end Go.Proofs.Ytkmimamminddiaa.PB
/- Plain laws of the checksum: words changed, swapped, padded. -/
namespace Go.Proofs.Ytkmimamminddiaa.Spec
set_option linter.unusedVariables false
set_option linter.unusedSimpArgs false
open Go.RowKit
theorem stands {S : Int} (h : 0 ≤ S) : norm (S + (65535 - norm S)) = 65535 := by
 unfold norm
 split
 ·rw [if_neg (by omega)]; omega
 ·rw [if_neg (by omega)]; omega
end Go.Proofs.Ytkmimamminddiaa.Spec
/- UdpReads, UdpBack, UdpSums, UdpGreat, UdpLengths, UdpNone, the plain statements: for all datagrams the printed laws return true. -/
namespace Go.Proofs.Ytkmimamminddiaa.Pure
set_option linter.unusedVariables false
set_option linter.unusedSimpArgs false
open Go.RowKit Go.Proofs.Ytkmimamminddiaa.PB Go.Proofs.YtkmimamminddiaaW.PrintWords Go.Proofs.YtkmimamminddiaaW.PrintLast
open Go.Proofs.Ytkmimamminddiaa.Spec Go.Proofs.Ytkmimamminddiaa.BytesEq
def ubytes (s d c : Int) (l : List Int) : List Int := [s / 256 % 256, s % 256, d / 256 % 256, d % 256, (8 + (l.length : Int)) / 256 % 256, (8 + (l.length : Int)) % 256, c / 256 % 256, c % 256] ++ l
theorem rubytes_eq (s d c : Int) {l : List Int} (hl : l.length ≤ 1000000000) : lychref1_UdpBytes.f s d c l = if (l.length : Int) > 65527 then some ([], 23) else some (ubytes s d c l, 0) := by
 unfold lychref1_UdpBytes.f lychref1_Put16.f ubytes
 by_cases h : (l.length : Int) > 65527
 ·rw [if_pos h, if_pos h]
 ·rw [if_neg h, if_neg h, wrap64_id (n := 8 + (l.length : Int)) (by omega) (by omega), u16w (n := 8 + (l.length : Int)) (by omega) (by omega)]
  simp only [Option.bind_some, List.length_cons, List.length_nil, List.cons_append, List.nil_append]
  rw [if_pos (by omega)]
  simp only [Option.bind_some, List.length_cons, List.length_nil, List.cons_append, List.nil_append]
  rw [if_pos (by omega)]
  simp only [Option.bind_some, List.length_cons, List.length_nil, List.cons_append, List.nil_append]
  rw [if_pos (by omega)]
  simp only [Option.bind_some, List.length_cons, List.length_nil, List.cons_append, List.nil_append]
  rw [if_pos (by omega)]
  simp only [Option.bind_some, List.length_cons, List.length_nil, List.cons_append, List.nil_append]
  rw [if_pos (by omega)]
theorem ubytes_isB {s d c : Int} {l : List Int} (h : IsB l) : IsB (ubytes s d c l) :=
 IsB.append (.cons (by omega) (.cons (by omega) (.cons (by omega) (.cons (by omega) (.cons (by omega) (.cons (by omega) (.cons (by omega) (.cons (by omega) .nil)))))))) h
theorem ubytes_length (s d c : Int) (l : List Int) : (ubytes s d c l).length = 8 + l.length := by simp [ubytes]; omega
end Go.Proofs.Ytkmimamminddiaa.Pure
/- Plain: PureUdps. -/
namespace Go.Proofs.Ytkmimamminddiaa.Pure
set_option linter.unusedVariables false
set_option linter.unusedSimpArgs false
open Go.RowKit Go.Proofs.Ytkmimamminddiaa.PB Go.Proofs.YtkmimamminddiaaW.PrintWords Go.Proofs.YtkmimamminddiaaW.PrintLast
open Go.Proofs.Ytkmimamminddiaa.Spec Go.Proofs.Ytkmimamminddiaa.BytesEq
theorem words_ubytes {s d c : Int} {l : List Int} (hs : 0 ≤ s ∧ s ≤ 65535) (hd : 0 ≤ d ∧ d ≤ 65535) (hc : 0 ≤ c ∧ c ≤ 65535) (hl : (l.length : Int) ≤ 65527) : isum (words (ubytes s d c l)) = s + d + (8 + (l.length : Int)) + c + isum (words l) := by
 unfold ubytes
 simp only [List.cons_append, List.nil_append, words, isum]
 omega
def usumS (a b s d : Int) (l : List Int) : Int := norm (a / 65536 + a % 65536 + b / 65536 + b % 65536 + 17 + (8 + (l.length : Int)) % 65536) + s + d + (8 + (l.length : Int)) + isum (words l)
theorem usumS_pos {a b s d : Int} {l : List Int} (ha : 0 ≤ a) (hb : 0 ≤ b) (hs : 0 ≤ s) (hd : 0 ≤ d) (h : IsB l) : 0 < usumS a b s d l := by
 have h1 := norm_range (a / 65536 + a % 65536 + b / 65536 + b % 65536 + 17 + (8 + (l.length : Int)) % 65536) (by omega)
 have h2 := isum_nonneg _ (words_isW l h)
 unfold usumS; omega
def usum (S : Int) : Int := if norm S = 65535 then 65535 else 65535 - norm S
theorem rusum_eq {a b s d c : Int} {l : List Int} (ha : 0 ≤ a ∧ a ≤ 4294967295) (hb : 0 ≤ b ∧ b ≤ 4294967295) (hs : 0 ≤ s ∧ s ≤ 65535) (hd : 0 ≤ d ∧ d ≤ 65535) (h : IsB l) (hl : (l.length : Int) ≤ 3000) (K : Nat) (hK : 4000 ≤ K) :
  lychref1_UdpSum.f K a b s d c l = some (usum (usumS a b s d l)) := by
 have hS := usumS_pos (s := s) (d := d) ha.1 hb.1 hs.1 hd.1 h
 have hnn := norm_range (usumS a b s d l) (by omega)
 have hB := ubytes_isB (s := s) (d := d) (c := 0) h
 have hL := ubytes_length s d 0 l
 have hp := norm_range (a / 65536 + a % 65536 + b / 65536 + b % 65536 + 17 + (8 + (l.length : Int)) % 65536) (by omega)
 have hr := addw_range (words (ubytes s d 0 l)) _ hp.1 (by omega) (words_isW _ hB)
 have hn := norm_addw (words (ubytes s d 0 l)) _ hp.1 (by omega) (words_isW _ hB)
 unfold lychref1_UdpSum.f
 rw [rubytes_eq _ _ _ (by omega), if_neg (by omega)]
 simp only [Option.bind_some, if_true]
 rw [show ((ubytes s d 0 l).length : Int) = 8 + (l.length : Int) from by omega, SumEq.rpseudo_eq a b 17 _ ha hb (by omega) K (by omega)]
 simp only [Option.bind_some]
 rw [SumEq.radd_eq _ _ hB (by omega) hp.1 (by omega) K (by omega)]
 simp only [Option.bind_some]
 have e : norm (a / 65536 + a % 65536 + b / 65536 + b % 65536 + 17 + (8 + (l.length : Int)) % 65536) + (s + d + (8 + (l.length : Int)) + 0 + isum (words l)) = usumS a b s d l := by unfold usumS; omega
 rw [SumEq.rfold_eq _ hr.1 hr.2 K (by omega), hn, words_ubytes hs hd (by omega) (by omega), e]
 simp only [Option.bind_some]
 rw [show (IntKind.u16.max : Int) = 65535 from rfl, not_u16 hnn.1 hnn.2]
 unfold usum
 by_cases c1 : norm (usumS a b s d l) = 65535
 ·rw [if_pos (by omega), if_pos c1]
 ·rw [if_neg (by omega), if_neg c1]
end Go.Proofs.Ytkmimamminddiaa.Pure
/- The checksum of bytes. -/
namespace Go.Proofs.Ytkmimamminddiaa.SumEq
set_option linter.unusedVariables false
set_option linter.unusedSimpArgs false
open Go.RowKit Go.Proofs.Ytkmimamminddiaa.PB Go.Proofs.YtkmimamminddiaaW.PrintWords Go.Proofs.YtkmimamminddiaaW.PrintLast Go.Proofs.Ytkmimamminddiaa.Spec
theorem of_eq (l : List Int) (hb : IsB l) (hl : l.length ≤ 1000000000) (k : Nat) (hk : l.length + 1 < k) (hk3 : 3 < k) : sum_Of.f k l = some (ck l) := by
 have hr := addw_range (words l) 0 (by omega) (by omega) (words_isW l hb)
 have hn := norm_addw (words l) 0 (by omega) (by omega) (words_isW l hb)
 have hp := norm_range _ (isum_nonneg _ (words_isW l hb))
 unfold sum_Of.f
 rw [add_eq 0 l hb hl (by omega) (by omega) k hk]
 simp only [Option.bind_some]
 rw [fold_eq _ hr.1 hr.2 k hk3, hn, Int.zero_add]
 simp only [Option.bind_some]
 rw [show (IntKind.u16.max : Int) = 65535 from rfl, not_u16 hp.1 hp.2]
 rfl
theorem rof_eq (l : List Int) (hb : IsB l) (hl : l.length ≤ 1000000000) (k : Nat) (hk : l.length + 1 < k) (hk3 : 3 < k) : lychref1_Of.f k l = some (ck l) := by
 have hr := addw_range (words l) 0 (by omega) (by omega) (words_isW l hb)
 have hn := norm_addw (words l) 0 (by omega) (by omega) (words_isW l hb)
 have hp := norm_range _ (isum_nonneg _ (words_isW l hb))
 unfold lychref1_Of.f
 rw [radd_eq 0 l hb hl (by omega) (by omega) k hk]
 simp only [Option.bind_some]
 rw [rfold_eq _ hr.1 hr.2 k hk3, hn, Int.zero_add]
 simp only [Option.bind_some]
 rw [show (IntKind.u16.max : Int) = 65535 from rfl, not_u16 hp.1 hp.2]
 rfl
end Go.Proofs.Ytkmimamminddiaa.SumEq
/- Plain: PureIcmps. -/
namespace Go.Proofs.Ytkmimamminddiaa.PureI
set_option linter.unusedVariables false
set_option linter.unusedSimpArgs false
open Go.RowKit Go.Proofs.Ytkmimamminddiaa.PB Go.Proofs.YtkmimamminddiaaW.PrintWords Go.Proofs.YtkmimamminddiaaW.PrintLast
open Go.Proofs.Ytkmimamminddiaa.Spec Go.Proofs.Ytkmimamminddiaa.BytesEq
theorem word32b {a b c d : Int} (ha : 0 ≤ a ∧ a ≤ 255) (hb : 0 ≤ b ∧ b ≤ 255) (hc : 0 ≤ c ∧ c ≤ 255) (hd : 0 ≤ d ∧ d ≤ 255) :
  Go.bits .or .u32 (Go.bits .or .u32 (Go.bits .or .u32 (((a % 4294967296) * 16777216) % 4294967296) (((b % 4294967296) * 65536) % 4294967296)) (((c % 4294967296) * 256) % 4294967296)) (d % 4294967296) = a * 16777216 + b * 65536 + c * 256 + d := by
 rw [show a % 4294967296 = a from by omega, show a * 16777216 % 4294967296 = a * 16777216 from by omega, show b % 4294967296 = b from by omega, show b * 65536 % 4294967296 = b * 65536 from by omega, show c % 4294967296 = c from by omega, show c * 256 % 4294967296 = c * 256 from by omega, show d % 4294967296 = d from by omega]
 rw [or_u32 24 (x := a * 16777216) (y := b * 65536) (by omega) (by omega) (by omega) (by omega) (by omega) (by omega)]
 rw [or_u32 16 (x := a * 16777216 + b * 65536) (y := c * 256) (by omega) (by omega) (by omega) (by omega) (by omega) (by omega)]
 rw [or_u32 8 (x := a * 16777216 + b * 65536 + c * 256) (y := d) (by omega) (by omega) (by omega) (by omega) (by omega) (by omega)]
def imsg (l : List Int) : Int × Int × Int × Int × List Int × Int := if l.length < 8 then (0, 0, 0, 0, [], 20) else (l.getD 0 0, l.getD 1 0, g16 l 2, g32 l 4, l.drop 8, 0)
theorem iparse_eq {l : List Int} (h : IsB l) (hl : l.length ≤ 1000000000) : icmp_Parse.f l = some (imsg l) := by
 unfold icmp_Parse.f imsg
 by_cases h8 : l.length < 8
 ·rw [if_pos (by omega), if_pos h8]
 ·rw [if_neg (by omega), if_neg h8, if_pos (by omega), if_pos (by omega), if_pos (by omega), if_pos (by omega), if_pos (by omega), if_pos (by omega), if_pos (by omega), if_pos (by omega), if_pos (by omega), clone_eq _ (by rw [List.length_drop]; omega)]
  simp only [Option.bind_some]
  rw [rd_nat l 0 0 rfl, rd_nat l 1 1 rfl, rd_nat l 2 2 rfl, rd_nat l 3 3 rfl, rd_nat l 4 4 rfl, rd_nat l 5 5 rfl, rd_nat l 6 6 rfl, rd_nat l 7 7 rfl, word16 (h.getD 2) (h.getD 3), word32b (h.getD 4) (h.getD 5) (h.getD 6) (h.getD 7)]
  have e : g32 l 4 = (l.getD 4 0 * 256 + l.getD 5 0) * 65536 + (l.getD 6 0 * 256 + l.getD 7 0) := rfl
  rw [e, show (l.getD 4 0 * 256 + l.getD 5 0) * 65536 + (l.getD 6 0 * 256 + l.getD 7 0) = l.getD 4 0 * 16777216 + l.getD 5 0 * 65536 + l.getD 6 0 * 256 + l.getD 7 0 from by omega]
  rfl
theorem riparse_eq {l : List Int} (h : IsB l) (hl : l.length ≤ 1000000000) : lychref1_Icmp.f l = some (imsg l) := by
 unfold lychref1_Icmp.f imsg
 by_cases h8 : l.length < 8
 ·rw [if_pos (by omega), if_pos h8]
 ·have e2 := get16_eq h 2 (by omega) hl
  have e4 := get32_eq h 4 (by omega) hl
  have e8 := cut_eq l 8 l.length (by omega) (by omega) hl
  rw [show ((2 : Nat) : Int) = 2 from rfl] at e2
  rw [show ((4 : Nat) : Int) = 4 from rfl] at e4
  rw [show ((8 : Nat) : Int) = 8 from rfl] at e8
  rw [if_neg (by omega), if_neg h8, if_pos (by omega), if_pos (by omega), e2, e4, e8]
  simp only [Option.bind_some, List.take_length]
  rw [rd_nat l 0 0 rfl, rd_nat l 1 1 rfl]
def ibytes (t c s r : Int) (l : List Int) : List Int := [t, c, s / 256 % 256, s % 256, r / 16777216 % 256, r / 65536 % 256, r / 256 % 256, r % 256] ++ l
theorem ribytes_eq (t c s r : Int) {l : List Int} (hl : l.length ≤ 1000000000) : lychref1_IcmpBytes.f t c s r l = if (l.length : Int) > 65507 then some ([], 23) else some (ibytes t c s r l, 0) := by
 unfold lychref1_IcmpBytes.f lychref1_Put16.f lychref1_Put32.f ibytes
 by_cases h : (l.length : Int) > 65507
 ·rw [if_pos h, if_pos h]
 ·rw [if_neg h, if_neg h]
  simp only [Option.bind_some, List.length_cons, List.length_nil, List.cons_append, List.nil_append]
  rw [if_pos (by omega)]
  simp only [Option.bind_some, List.length_cons, List.length_nil, List.cons_append, List.nil_append]
  rw [if_pos (by omega)]
  simp only [Option.bind_some, List.length_cons, List.length_nil, List.cons_append, List.nil_append]
  rw [if_pos (by omega)]
theorem ibytes_isB {t c s r : Int} {l : List Int} (ht : 0 ≤ t ∧ t ≤ 255) (hc : 0 ≤ c ∧ c ≤ 255) (h : IsB l) : IsB (ibytes t c s r l) :=
 IsB.append (.cons ht (.cons hc (.cons (by omega) (.cons (by omega) (.cons (by omega) (.cons (by omega) (.cons (by omega) (.cons (by omega) .nil)))))))) h
theorem ibytes_length (t c s r : Int) (l : List Int) : (ibytes t c s r l).length = 8 + l.length := by simp [ibytes]; omega
theorem risumf_eq (t c s r : Int) (l : List Int) (K : Nat) (hK : 4000 ≤ K) (hl : (l.length : Int) ≤ 3000) (hB : IsB (ibytes t c 0 r l)) : lychref1_IcmpSum.f K t c s r l = some (ck (ibytes t c 0 r l)) := by
 have hL := ibytes_length t c 0 r l
 unfold lychref1_IcmpSum.f
 rw [ribytes_eq _ _ _ _ (by omega), if_neg (by omega)]
 simp only [Option.bind_some, if_true]
 rw [SumEq.rof_eq _ hB (by omega) _ (by omega) (by omega)]
 simp only [Option.bind_some]
end Go.Proofs.Ytkmimamminddiaa.PureI
namespace Go.Proofs.Ytkmimamminddiaa.PB
open Go.RowKit Go.Proofs.YtkmimamminddiaaW.PrintWords Go.Proofs.YtkmimamminddiaaW.PrintLast Go.Proofs.YtkmimamminddiaaW.PrintMore
attribute [local go_sem] max2_int min2_int max_two min_two max_three min_three max_four min_four   -- for this text's walks alone
set_option linter.unusedVariables false
set_option linter.unusedSimpArgs false
mutual
def lychref1_Ip.j0 : Nat → List Int → Int → Int → Bool → Option (Int × Int × Int × Int × Int × Int × Int × Int × List Int × List Int × Int)
 | 0, _, _, _, _ => none
 | k + 1, x0, x4, x5, x33 => if x33 = true then (some (0, 0, 0, 0, 0, 0, 0, 0, ([] : List Int), ([] : List Int), 21)) else (if (x0.length : Int) < x4 then (lychref1_Ip.j1 k x0 x4 x5 true) else (lychref1_Ip.j1 k x0 x4 x5 (decide ((x0.length : Int) < x5))))
def lychref1_Ip.j1 : Nat → List Int → Int → Int → Bool → Option (Int × Int × Int × Int × Int × Int × Int × Int × List Int × List Int × Int)
 | 0, _, _, _, _ => none
 | k + 1, x0, x4, x5, x44 => if x44 = true then (some (0, 0, 0, 0, 0, 0, 0, 0, ([] : List Int), ([] : List Int), 20)) else (if 0 ≤ x4 then (if x4 ≤ (x0.length : Int) then ((lychref1_Add.f k 0 (x0.take (x4 : Int).toNat)).bind fun t562 => ((lychref1_Fold.f k t562).bind fun t563 => (if t563 = 65535 then ((lychref1_Get16.f x0 6).bind fun t564 => (if 1 < (x0.length : Int) then ((lychref1_Get16.f x0 4).bind fun t566 => (if 8 < (x0.length : Int) then (if 9 < (x0.length : Int) then ((lychref1_Get32.f x0 12).bind fun t569 => ((lychref1_Get32.f x0 16).bind fun t570 => ((lychref1_cut.f x0 20 x4).bind fun t571 => ((lychref1_cut.f x0 x4 x5).bind fun t574 => (some (rd x0 1, rd x0 8, rd x0 9, t566, (t564 / 8192) % 256, Go.bits .and .u16 t564 8191, t569, t570, t571, t574, 0)))))) else (none)) else (none))) else (none))) else (some (0, 0, 0, 0, 0, 0, 0, 0, ([] : List Int), ([] : List Int), 22))))) else (none)) else (none))
end
def lychref1_Ip.f (k : Nat) (l0 : List Int) : Option (Int × Int × Int × Int × Int × Int × Int × Int × List Int × List Int × Int) := if (l0.length : Int) < 20 then (some (0, 0, 0, 0, 0, 0, 0, 0, ([] : List Int), ([] : List Int), 20)) else (if 0 < (l0.length : Int) then ((lychref1_Get16.f l0 2).bind fun t559 => (if ((rd l0 0) / 16) = 4 then (if (wrap64 ((wrap64 (Go.bits .and .u8 (rd l0 0) 15)) * 4)) < 20 then (lychref1_Ip.j0 k l0 (wrap64 ((wrap64 (Go.bits .and .u8 (rd l0 0) 15)) * 4)) (wrap64 (t559)) true) else (lychref1_Ip.j0 k l0 (wrap64 ((wrap64 (Go.bits .and .u8 (rd l0 0) 15)) * 4)) (wrap64 (t559)) (decide ((wrap64 (t559)) < (wrap64 ((wrap64 (Go.bits .and .u8 (rd l0 0) 15)) * 4)))))) else (lychref1_Ip.j0 k l0 (wrap64 ((wrap64 (Go.bits .and .u8 (rd l0 0) 15)) * 4)) (wrap64 (t559)) true))) else (none))
def lychref1_Ip.T3 : Bool × List (List Nat × List Nat) := (true, [([], []), ([0], [0]), ([1], [1]), ([2], [2]), ([3], [3]), ([4], [4]), ([], []), ([6], [6]), ([7], [7]), ([5, 7, 0, 1, 2, 3, 4, 5], [5]), ([8, 9, 0, 1, 2, 3, 4, 5, 6, 7, 8, 9], [8])])
def lychref1_Ip.B3 : List Nat := [0, 1, 3, 7, 15, 31, 0, 64, 192, 255, 1023]
theorem lychref1_Ip.tab3 : rtab .any (opsOf Try.f38 3) = lychref1_Ip.T3 := by kernel_rfl
theorem lychref1_Ip.bits3 : waitsOk lychref1_Ip.T3.2 lychref1_Ip.B3 = true := by kernel_rfl
def lychref1_Ip.T11 : Bool × List (List Nat × List Nat) := (true, [([], []), ([0], [0]), ([1], [1]), ([], []), ([3], [3]), ([], []), ([5], [5]), ([6], [6]), ([], []), ([8], [8]), ([], []), ([10], [10]), ([11], [11]), ([], []), ([13], [13]), ([14], [14]), ([], []), ([16, 4], [16]), ([], []), ([18, 17], [18]), ([], []), ([], []), ([20, 21, 19], [20, 21]), ([], []), ([], []), ([], []), ([23, 24, 25, 22], [23, 24, 25]), ([2, 4, 7, 9, 12, 15, 17, 19, 22, 26], [2, 4, 7, 9, 12, 15, 17, 19, 22, 26]), ([27, 26, 0, 1, 2, 3, 4, 5, 6, 7, 8, 9, 10, 11, 12, 13, 14, 15, 16, 17, 18, 19, 20, 21, 22, 23, 24, 25, 26, 27], [27]), ([28, 0, 1, 2, 3, 4, 5, 6, 7, 8, 9, 10, 11, 12, 13, 14, 15, 16, 17, 18, 19, 20, 21, 22, 23, 24, 25, 26, 27, 28], [])])
def lychref1_Ip.B11 : List Nat := [0, 1, 3, 0, 8, 0, 32, 96, 0, 256, 0, 1024, 3072, 0, 8192, 24576, 0, 65560, 0, 458776, 0, 0, 4128792, 0, 0, 0, 67043352, 134217727, 268435455, 536870911]
theorem lychref1_Ip.tab11 : rtab .any (opsOf Try.f38 11) = lychref1_Ip.T11 := by kernel_rfl
theorem lychref1_Ip.bits11 : waitsOk lychref1_Ip.T11.2 lychref1_Ip.B11 = true := by kernel_rfl
theorem lychref1_Ip.calls (k : Nat) (A0 : Option Addr) (c0 : Nat) (l0 : List Int) (r1 : Int) (r2 : Int) (r3 : Int) (r4 : Int) (r5 : Int) (r6 : Int) (r7 : Int) (r8 : Int) (r9 : List Int) (r10 : List Int) (r11 : Int) (w : World) (hr0 : Kd.C (Kd.int .u8) w A0 l0.length l0) (hc0 : l0.length ≤ c0) (h : lychref1_Ip.f k l0 = some (r1, r2, r3, r4, r5, r6, r7, r8, r9, r10, r11)) :
  Calls Try.prog 38 #[.slice A0 l0.length c0] w fun e w' => ∃ v8_ v9_ : Value, e = .returned (.tuple #[.agg #[.int .u8 r1, .int .u8 r2, .int .u8 r3, .int .u16 r4, .int .u8 r5, .int .u16 r6, .int .u32 r7, .int .u32 r8, v8_, v9_], .int .i64 r11]) ∧ Kd.R (Kd.int .u8) 5 w' w.heap.size (fun k_ => some k_ ≠ (v9_ : Value).ownBlock) v8_ r9 ∧ Kd.R (Kd.int .u8) 5 w' w.heap.size (fun k_ => some k_ ≠ (v8_ : Value).ownBlock) v9_ r10 ∧ Below w.heap.size w w' := by
 have hu73 := Try.underlying73
 have HR0 := Aside0.mk hr0
 have HC0 := Aside0.mk hc0
 clear hr0 hc0
 have HB := Aside0.mk (Below.refl w.heap.size w)
 have H : (if (l0.length : Int) < 20 then (some (0, 0, 0, 0, 0, 0, 0, 0, ([] : List Int), ([] : List Int), 20)) else (if 0 < (l0.length : Int) then ((lychref1_Get16.f l0 2).bind fun t559 => (if ((rd l0 0) / 16) = 4 then (if (wrap64 ((wrap64 (Go.bits .and .u8 (rd l0 0) 15)) * 4)) < 20 then (lychref1_Ip.j0 k l0 (wrap64 ((wrap64 (Go.bits .and .u8 (rd l0 0) 15)) * 4)) (wrap64 (t559)) true) else (lychref1_Ip.j0 k l0 (wrap64 ((wrap64 (Go.bits .and .u8 (rd l0 0) 15)) * 4)) (wrap64 (t559)) (decide ((wrap64 (t559)) < (wrap64 ((wrap64 (Go.bits .and .u8 (rd l0 0) 15)) * 4)))))) else (lychref1_Ip.j0 k l0 (wrap64 ((wrap64 (Go.bits .and .u8 (rd l0 0) 15)) * 4)) (wrap64 (t559)) true))) else (none))) = some (r1, r2, r3, r4, r5, r6, r7, r8, r9, r10, r11) := h
 clear h
 by_cases c2 : (l0.length : Int) < 20
 ·rw [if_pos c2] at H
  have c2b0 : decide ((l0.length : Int) < 20) = true := decide_eq_true c2
  have c2b1 : decide (l0.length < 20) = true := decide_eq_true (by omega)
  clear c2
  simp only [Option.some.injEq, Prod.mk.injEq] at H
  obtain ⟨rfl, rfl, rfl, rfl, rfl, rfl, rfl, rfl, rfl, rfl, rfl⟩ := H
  go_enter Try.func38, Try.ntmps38
  go_wp2_with (first | ((with_reducible refine gate_dst (N := 2) rfl ?_); (try (refine gate_guard (by rfl) ?_; dsimp only)); refine box_event ?hg (N := 2) ?hd (cs := #[.int .u8 0, .int .u8 0, .int .u8 0, .int .u16 0, .int .u8 0, .int .u16 0, .int .u32 0, .int .u32 0, .slice none 0 0, .slice none 0 0]) (t := 73) ?hr ?_; (case hd => rfl); (case hg => rfl); (case hr => first | (go_simp; done) | (go_simp; rfl)); intro gb557 hg w3 hbox hb; have n0_ := Aside0.mk (below_step (bz HB) hb); have n1_ := Aside0.mk (hbox); have n2_ := Aside0.mk ((by rw [hg]; exact (below_size (bz HB)) : w.heap.size ≤ gb557)); have n3_ := Aside0.mk ((by rw [hg]; exact (below_size (bz HB)) : w.heap.size ≤ gb557)); clear HB; have HB := n0_; have BK557 := n1_; have GW557 := n2_; have GE557 := n3_; clear n0_ n1_ n2_ n3_; clear hb hbox hg; have hcz4_0 : w3.cell? ⟨gb557, 0, none⟩ = some (.int .u8 0) := cz BK557.out 0 rfl; have hcz4_1 : w3.cell? ⟨gb557, 1, none⟩ = some (.int .u8 0) := cz BK557.out 1 rfl; have hcz4_2 : w3.cell? ⟨gb557, 2, none⟩ = some (.int .u8 0) := cz BK557.out 2 rfl; have hcz4_3 : w3.cell? ⟨gb557, 3, none⟩ = some (.int .u16 0) := cz BK557.out 3 rfl; have hcz4_4 : w3.cell? ⟨gb557, 4, none⟩ = some (.int .u8 0) := cz BK557.out 4 rfl; have hcz4_5 : w3.cell? ⟨gb557, 5, none⟩ = some (.int .u16 0) := cz BK557.out 5 rfl; have hcz4_6 : w3.cell? ⟨gb557, 6, none⟩ = some (.int .u32 0) := cz BK557.out 6 rfl; have hcz4_7 : w3.cell? ⟨gb557, 7, none⟩ = some (.int .u32 0) := cz BK557.out 7 rfl; have hcz4_8 : w3.cell? ⟨gb557, 8, none⟩ = some (.slice none 0 0) := cz BK557.out 8 rfl; have hcz4_9 : w3.cell? ⟨gb557, 9, none⟩ = some (.slice none 0 0) := cz BK557.out 9 rfl; have hfz4_0 := blk_frozen BK557.out 0; have hfz4_1 := blk_frozen BK557.out 1; have hfz4_2 := blk_frozen BK557.out 2; have hfz4_3 := blk_frozen BK557.out 3; have hfz4_4 := blk_frozen BK557.out 4; have hfz4_5 := blk_frozen BK557.out 5; have hfz4_6 := blk_frozen BK557.out 6; have hfz4_7 := blk_frozen BK557.out 7; have hfz4_8 := blk_frozen BK557.out 8; have hfz4_9 := blk_frozen BK557.out 9))
  refine bodyPost_ret (results_ct rfl _ _ gb557 73 #[.int .u8 0, .int .u8 0, .int .u8 0, .int .u16 0, .int .u8 0, .int .u16 0, .int .u32 0, .int .u32 0, .slice none 0 0, .slice none 0 0] (0, 0) _ rfl (by (repeat (first | with_reducible refine blk_drewN ?_ _ | with_reducible refine blk_drew ?_ | with_reducible refine blk_alloc ?_ _ | refine blk_put (cs := #[.int .u8 0, .int .u8 0, .int .u8 0, .int .u16 0, .int .u8 0, .int .u16 0, .int .u32 0, .int .u32 0, .slice none 0 0, .slice none 0 0]) ?_ _ _ rfl)); (with_reducible repeat (first | refine blk_drewN ?_ _ | refine blk_drew ?_ | refine blk_alloc ?_ _)); exact BK557.out) Try.underlying73 rfl (by kernel_rfl)) rfl ?_
  exact ⟨_, _, by first | rfl | (simp [errW_none, errW_some] <;> rfl) | (simp [*, errW_none, errW_some] <;> rfl), by first | exact Kd.R_nil _ _ _ _ _ | exact Kd.N_nil _ _ _ _ _ | exact Kd.V_nil _ _ _ _ _ | exact Kd.Q_nil _ _ _ _ _ | exact Kd.S_nil _ _ _ _ _, by first | exact Kd.R_nil _ _ _ _ _ | exact Kd.N_nil _ _ _ _ _ | exact Kd.V_nil _ _ _ _ _ | exact Kd.Q_nil _ _ _ _ _ | exact Kd.S_nil _ _ _ _ _, bz HB⟩
 ·rw [if_neg c2] at H
  have c2b0 : decide ((l0.length : Int) < 20) = false := decide_eq_false c2
  have c2b1 : decide (l0.length < 20) = false := decide_eq_false (by omega)
  clear c2
  by_cases c5 : 0 < (l0.length : Int)
  ·rw [if_pos c5] at H
   have c5b0 : decide (0 < (l0.length : Int)) = true := decide_eq_true c5
   have c5b1 : decide (0 < l0.length) = true := decide_eq_true (by omega)
   clear c5
   replace H := Option.bind_eq_some_iff.mp H
   obtain ⟨t559, A60, H⟩ := H
   replace H : (if ((rd l0 0) / 16) = 4 then (if (wrap64 ((wrap64 (Go.bits .and .u8 (rd l0 0) 15)) * 4)) < 20 then (lychref1_Ip.j0 k l0 (wrap64 ((wrap64 (Go.bits .and .u8 (rd l0 0) 15)) * 4)) (wrap64 (t559)) true) else (lychref1_Ip.j0 k l0 (wrap64 ((wrap64 (Go.bits .and .u8 (rd l0 0) 15)) * 4)) (wrap64 (t559)) (decide ((wrap64 (t559)) < (wrap64 ((wrap64 (Go.bits .and .u8 (rd l0 0) 15)) * 4)))))) else (lychref1_Ip.j0 k l0 (wrap64 ((wrap64 (Go.bits .and .u8 (rd l0 0) 15)) * 4)) (wrap64 (t559)) true)) = some (r1, r2, r3, r4, r5, r6, r7, r8, r9, r10, r11) := H
   have A6 := Aside0.mk A60
   clear A60
   have HC7 := Aside0.mk H
   clear H
   go_enter Try.func38, Try.ntmps38
   try go_wp2_with (first | ((with_reducible refine gate_dst (N := 2) rfl ?_); (try (refine gate_guard (by rfl) ?_; dsimp only)); refine box_event ?hg (N := 2) ?hd (cs := #[.int .u8 0, .int .u8 0, .int .u8 0, .int .u16 0, .int .u8 0, .int .u16 0, .int .u32 0, .int .u32 0, .slice none 0 0, .slice none 0 0]) (t := 73) ?hr ?_; (case hd => rfl); (case hg => rfl); (case hr => first | (go_simp; done) | (go_simp; rfl)); intro gb557 hg w8 hbox hb; have n0_ := Aside0.mk (below_step (bz HB) hb); have n1_ := Aside0.mk (hbox); have n2_ := Aside0.mk ((by rw [hg]; exact (below_size (bz HB)) : w.heap.size ≤ gb557)); have n3_ := Aside0.mk ((by rw [hg]; exact (below_size (bz HB)) : w.heap.size ≤ gb557)); clear HB; have HB := n0_; have BK557 := n1_; have GW557 := n2_; have GE557 := n3_; clear n0_ n1_ n2_ n3_; clear hb hbox hg))
   have n0_ := Aside0.mk (blk_drew BK557.out)
   have n1_ := Aside0.mk (below_drew1 HB.out)
   clear BK557
   clear HB
   have BK557 := n0_
   have HB := n1_
   clear n0_ n1_
   have p558 : 0 ≤ (0 : Int) := (by omega)
   have q558 : 0 < (l0.length : Int) := of_decide_eq_true (by first | (with_reducible assumption) | assumption)
   obtain ⟨ad558, e558, hx558_0⟩ := Kd.at_int HR0.out 0 p558 q558
   have hw558_0 := hx558_0
   (try rw [show ((0 : Int)).toNat = 0 from rfl] at hw558_0)
   (try rw [show 0 * 1 = 0 from rfl] at hw558_0)
   (try rw [Addr.add_zero'] at hw558_0)
   cases e558
   have qi558 : (0 < l0.length) = True := eq_true (by omega)
   (try rw [show ((0 : Int)).toNat = 0 from rfl] at hx558_0)
   (try rw [Addr.add_zero'] at hx558_0)
   replace hx558_0 := (HB.out.cell (World.block_lt_of_cell? w _ hx558_0)).trans hx558_0
   replace p558 := eq_true p558
   replace q558 := eq_true q558
   refine start_ (n := 11) (S := fun w' => w'.cell? ad558 = some (.int .u8 (rd l0 0))) (ds := []) #[false, false, false, false, false, false, false, false, false, false, false] (by kernel_rfl) rfl rfl (((HB.out.cell (World.block_lt_of_cell? w _ hw558_0)).trans hw558_0)) (fun hHeld => ?_); refine with_tabW lychref1_Ip.tab3 lychref1_Ip.bits3 (fun HT_ HW_ => ?_)
   generalize w8.drew = w9 at BK557 HB hx558_0 hHeld ⊢
   refine pz 0 11 HT_ ?_
   refine pz 1 12 HT_ ?_
   refine pz 6 17 HT_ ?_
   refine tz 2 13 HT_ HW_ hHeld ?_
   refine pz 3 14 HT_ ?_
   refine pz 4 15 HT_ ?_
   refine pz 5 16 HT_ ?_
   refine oz 7 (some 18) HT_ (fun K hK => ?_)
   refine gG Try.func64 #[.slice (some ad558) l0.length c0, .int .i64 2] ?_
   with_reducible refine (lychref1_Get16.calls _ _ l0 2 t559 _ ?side1 ?side2 A6.out).mono ?_
   (case side1 => exact Kd.C_below HR0.out (bz HB))
   (case side2 => exact HC0.out)
   rintro e w' ⟨rfl, ⟨nd, rfl⟩⟩
   refine ⟨_, rfl, ?_⟩
   refine hK.out _ _ (((HB.out.cell (World.block_lt_of_cell? w _ hw558_0)).trans hw558_0)) (fun hHeld => ?_)
   clear hK K
   refine nz 18 ?_
   refine pz 8 19 HT_ ?_
   refine pz 9 4 HT_ ?_
   refine pz 10 5 HT_ ?_
   refine dz HT_ ?_
   go_upto_region 4 with (fail)
   go_cut [33] (fun v33 wc => ∃ (kq : Nat) (x33_6 : Bool), v33 = .bool x33_6 ∧ Aside0 (lychref1_Ip.j0 kq l0 (wrap64 ((wrap64 (Go.bits .and .u8 (rd l0 0) 15)) * 4)) (wrap64 (t559)) x33_6 = some (r1, r2, r3, r4, r5, r6, r7, r8, r9, r10, r11)) ∧ Aside0 (kq ≤ k) ∧ Aside0 (wc.heap[gb557]? = some (.cells #[.int .u8 0, .int .u8 0, .int .u8 0, .int .u16 0, .int .u8 0, .int .u16 0, .int .u32 0, .int .u32 0, (.slice none 0 0), (.slice none 0 0)] 73 (0, 0))) ∧ Aside0 (Below w.heap.size w wc))
   case first =>
    have H := HC7.out
    clear HC7
    by_cases c10 : ((rd l0 0) / 16) = 4
    ·rw [if_pos c10] at H
     have c10b0 : (((rd l0 0) / 16) == 4) = true := beq_iff_eq.mpr c10
     have c10b1 : (((rd l0 0) / 16) != 4) = false := bne_eq_false_iff_eq.mpr c10
     clear c10
     (first | rw [c10b0] | (simp only [i64_w, i32_w]; rw [c10b0]) | skip)
     by_cases c11 : (wrap64 ((wrap64 (Go.bits .and .u8 (rd l0 0) 15)) * 4)) < 20
     ·rw [if_pos c11] at H
      have c11b0 : decide ((wrap64 ((wrap64 (Go.bits .and .u8 (rd l0 0) 15)) * 4)) < 20) = true := decide_eq_true c11
      clear c11
      have H' := Aside0.mk H
      clear H
      have p560 : 0 ≤ (0 : Int) := (by omega)
      have q560 : 0 < (l0.length : Int) := of_decide_eq_true (by first | (with_reducible assumption) | assumption)
      obtain ⟨ad560, e560, hx560_0⟩ := Kd.at_int HR0.out 0 p560 q560
      obtain rfl : ad558 = ad560 := (by injection e560)
      have qi560 : (0 < l0.length) = True := eq_true (by omega)
      (try rw [show ((0 : Int)).toNat = 0 from rfl] at hx560_0)
      (try rw [Addr.add_zero'] at hx560_0)
      replace hx560_0 := (HB.out.cell (World.block_lt_of_cell? w _ hx560_0)).trans hx560_0
      replace p560 := eq_true p560
      replace q560 := eq_true q560
      go_wp2
      go_meet
      case rel => exact ⟨_, (true), (by first | rfl | (simp; done) | (simp [*]; done)), H', ⟨by first | omega | exact Nat.le_refl _⟩, ⟨kz BK557⟩, ⟨bz HB⟩⟩
     ·rw [if_neg c11] at H
      have c11b0 : decide ((wrap64 ((wrap64 (Go.bits .and .u8 (rd l0 0) 15)) * 4)) < 20) = false := decide_eq_false c11
      clear c11
      have H' := Aside0.mk H
      clear H
      have p560 : 0 ≤ (0 : Int) := (by omega)
      have q560 : 0 < (l0.length : Int) := of_decide_eq_true (by first | (with_reducible assumption) | assumption)
      obtain ⟨ad560, e560, hx560_0⟩ := Kd.at_int HR0.out 0 p560 q560
      obtain rfl : ad558 = ad560 := (by injection e560)
      have qi560 : (0 < l0.length) = True := eq_true (by omega)
      (try rw [show ((0 : Int)).toNat = 0 from rfl] at hx560_0)
      (try rw [Addr.add_zero'] at hx560_0)
      replace hx560_0 := (HB.out.cell (World.block_lt_of_cell? w _ hx560_0)).trans hx560_0
      replace p560 := eq_true p560
      replace q560 := eq_true q560
      go_wp2
      go_meet
      case rel => exact ⟨_, (decide ((wrap64 (t559)) < (wrap64 ((wrap64 (Go.bits .and .u8 (rd l0 0) 15)) * 4)))), (by first | rfl | (simp; done) | (simp [*]; done)), H', ⟨by first | omega | exact Nat.le_refl _⟩, ⟨kz BK557⟩, ⟨bz HB⟩⟩
    ·rw [if_neg c10] at H
     have c10b0 : (((rd l0 0) / 16) == 4) = false := beq_eq_false_iff_ne.mpr c10
     have c10b1 : (((rd l0 0) / 16) != 4) = true := bne_iff_ne.mpr c10
     (first | rw [c10b0] | (simp only [i64_w, i32_w]; rw [c10b0]) | skip)
     have H' := Aside0.mk H
     clear H
     have p560 : 0 ≤ (0 : Int) := (by omega)
     have q560 : 0 < (l0.length : Int) := of_decide_eq_true (by first | (with_reducible assumption) | assumption)
     obtain ⟨ad560, e560, hx560_0⟩ := Kd.at_int HR0.out 0 p560 q560
     obtain rfl : ad558 = ad560 := (by injection e560)
     have qi560 : (0 < l0.length) = True := eq_true (by omega)
     (try rw [show ((0 : Int)).toNat = 0 from rfl] at hx560_0)
     (try rw [Addr.add_zero'] at hx560_0)
     replace hx560_0 := (HB.out.cell (World.block_lt_of_cell? w _ hx560_0)).trans hx560_0
     replace p560 := eq_true p560
     replace q560 := eq_true q560
     go_wp2
     go_meet
     case rel => exact ⟨_, (true), (by first | rfl | (simp; done) | (simp [*]; done)), H', ⟨by first | omega | exact Nat.le_refl _⟩, ⟨kz BK557⟩, ⟨bz HB⟩⟩
   case rest =>
    clear HC7
    try clear c2
    try clear c2b0
    try clear c2b1
    try clear c5
    try clear c5b0
    try clear c5b1
    try clear hx558_0
    try clear p558
    try clear q558
    obtain ⟨kq, x33_6, rfl, HA, HJ6, BK557, HB⟩ := hcut
    cases kq with
    | zero => exact absurd HA.out (by simp [lychref1_Ip.j0])
    | succ kj6 =>
     have H := HA.out
     clear HA
     simp only [lychref1_Ip.j0] at H
     by_cases c12 : x33_6 = true
     ·subst c12
      have H1 : (some (0, 0, 0, 0, 0, 0, 0, 0, ([] : List Int), ([] : List Int), 21)) = some (r1, r2, r3, r4, r5, r6, r7, r8, r9, r10, r11) := by rw [if_pos rfl] at H; exact H
      clear H
      have H := H1
      clear H1
      simp only [Option.some.injEq, Prod.mk.injEq] at H
      obtain ⟨rfl, rfl, rfl, rfl, rfl, rfl, rfl, rfl, rfl, rfl, rfl⟩ := H
      have hcz13_0_ := cs10 BK557.out
      have hfz13_0_ := blk_frozen BK557.out
      go_wp2
      refine bodyPost_ret (results_ct rfl _ _ gb557 73 #[.int .u8 0, .int .u8 0, .int .u8 0, .int .u16 0, .int .u8 0, .int .u16 0, .int .u32 0, .int .u32 0, .slice none 0 0, .slice none 0 0] (0, 0) _ rfl (by (repeat (first | with_reducible refine blk_drewN ?_ _ | with_reducible refine blk_drew ?_ | with_reducible refine blk_alloc ?_ _ | refine blk_put (cs := #[.int .u8 0, .int .u8 0, .int .u8 0, .int .u16 0, .int .u8 0, .int .u16 0, .int .u32 0, .int .u32 0, .slice none 0 0, .slice none 0 0]) ?_ _ _ rfl)); (with_reducible repeat (first | refine blk_drewN ?_ _ | refine blk_drew ?_ | refine blk_alloc ?_ _)); exact BK557.out) Try.underlying73 rfl (by kernel_rfl)) rfl ?_
      exact ⟨_, _, by first | rfl | (simp [errW_none, errW_some] <;> rfl) | (simp [*, errW_none, errW_some] <;> rfl), by first | exact Kd.R_nil _ _ _ _ _ | exact Kd.N_nil _ _ _ _ _ | exact Kd.V_nil _ _ _ _ _ | exact Kd.Q_nil _ _ _ _ _ | exact Kd.S_nil _ _ _ _ _, by first | exact Kd.R_nil _ _ _ _ _ | exact Kd.N_nil _ _ _ _ _ | exact Kd.V_nil _ _ _ _ _ | exact Kd.Q_nil _ _ _ _ _ | exact Kd.S_nil _ _ _ _ _, bz HB⟩
     ·replace c12 := Bool.eq_false_iff.mpr c12
      subst c12
      have H1 : (if (l0.length : Int) < (wrap64 ((wrap64 (Go.bits .and .u8 (rd l0 0) 15)) * 4)) then (lychref1_Ip.j1 kj6 l0 (wrap64 ((wrap64 (Go.bits .and .u8 (rd l0 0) 15)) * 4)) (wrap64 (t559)) true) else (lychref1_Ip.j1 kj6 l0 (wrap64 ((wrap64 (Go.bits .and .u8 (rd l0 0) 15)) * 4)) (wrap64 (t559)) (decide ((l0.length : Int) < (wrap64 (t559)))))) = some (r1, r2, r3, r4, r5, r6, r7, r8, r9, r10, r11) := by rw [if_neg (show ¬ (false = true) by decide)] at H; exact H
      clear H
      have H := H1
      clear H1
      have HC14 := Aside0.mk H
      clear H
      go_upto_region 6 with (fail)
      go_cut [44] (fun v44 wc => ∃ (kq : Nat) (x44_13 : Bool), v44 = .bool x44_13 ∧ Aside0 (lychref1_Ip.j1 kq l0 (wrap64 ((wrap64 (Go.bits .and .u8 (rd l0 0) 15)) * 4)) (wrap64 (t559)) x44_13 = some (r1, r2, r3, r4, r5, r6, r7, r8, r9, r10, r11)) ∧ Aside0 (kq ≤ kj6) ∧ Aside0 (wc.heap[gb557]? = some (.cells #[.int .u8 0, .int .u8 0, .int .u8 0, .int .u16 0, .int .u8 0, .int .u16 0, .int .u32 0, .int .u32 0, (.slice none 0 0), (.slice none 0 0)] 73 (0, 0))) ∧ Aside0 (Below w.heap.size w wc))
      case first =>
       have H := HC14.out
       clear HC14
       by_cases c15 : (l0.length : Int) < (wrap64 ((wrap64 (Go.bits .and .u8 (rd l0 0) 15)) * 4))
       ·rw [if_pos c15] at H
        have c15b0 : decide ((l0.length : Int) < (wrap64 ((wrap64 (Go.bits .and .u8 (rd l0 0) 15)) * 4))) = true := decide_eq_true c15
        clear c15
        (first | rw [c15b0] | (simp only [i64_w, i32_w]; rw [c15b0]) | skip)
        have H' := Aside0.mk H
        clear H
        go_wp2
        go_meet
        case rel => exact ⟨_, (true), (by first | rfl | (simp; done) | (simp [*]; done)), H', ⟨by have := HJ6.out; first | omega | exact Nat.le_refl _⟩, ⟨kz BK557⟩, ⟨bz HB⟩⟩
       ·rw [if_neg c15] at H
        have c15b0 : decide ((l0.length : Int) < (wrap64 ((wrap64 (Go.bits .and .u8 (rd l0 0) 15)) * 4))) = false := decide_eq_false c15
        clear c15
        (first | rw [c15b0] | (simp only [i64_w, i32_w]; rw [c15b0]) | skip)
        have H' := Aside0.mk H
        clear H
        go_wp2
        go_meet
        case rel => exact ⟨_, (decide ((l0.length : Int) < (wrap64 (t559)))), (by first | rfl | (simp; done) | (simp [*]; done)), H', ⟨by have := HJ6.out; first | omega | exact Nat.le_refl _⟩, ⟨kz BK557⟩, ⟨bz HB⟩⟩
      case rest =>
       clear HC14
       try clear c2
       try clear c2b0
       try clear c2b1
       try clear c5
       try clear c5b0
       try clear c5b1
       try clear c12
       try clear hx558_0
       try clear p558
       try clear q558
       obtain ⟨kq, x44_13, rfl, HA, HJ13, BK557, HB⟩ := hcut
       cases kq with
       | zero => exact absurd HA.out (by simp [lychref1_Ip.j1])
       | succ kj13 =>
        have H := HA.out
        clear HA
        simp only [lychref1_Ip.j1] at H
        by_cases c16 : x44_13 = true
        ·subst c16
         have H1 : (some (0, 0, 0, 0, 0, 0, 0, 0, ([] : List Int), ([] : List Int), 20)) = some (r1, r2, r3, r4, r5, r6, r7, r8, r9, r10, r11) := by rw [if_pos rfl] at H; exact H
         clear H
         have H := H1
         clear H1
         simp only [Option.some.injEq, Prod.mk.injEq] at H
         obtain ⟨rfl, rfl, rfl, rfl, rfl, rfl, rfl, rfl, rfl, rfl, rfl⟩ := H
         have hcz17_0_ := cs10 BK557.out
         have hfz17_0_ := blk_frozen BK557.out
         go_wp2
         refine bodyPost_ret (results_ct rfl _ _ gb557 73 #[.int .u8 0, .int .u8 0, .int .u8 0, .int .u16 0, .int .u8 0, .int .u16 0, .int .u32 0, .int .u32 0, .slice none 0 0, .slice none 0 0] (0, 0) _ rfl (by (repeat (first | with_reducible refine blk_drewN ?_ _ | with_reducible refine blk_drew ?_ | with_reducible refine blk_alloc ?_ _ | refine blk_put (cs := #[.int .u8 0, .int .u8 0, .int .u8 0, .int .u16 0, .int .u8 0, .int .u16 0, .int .u32 0, .int .u32 0, .slice none 0 0, .slice none 0 0]) ?_ _ _ rfl)); (with_reducible repeat (first | refine blk_drewN ?_ _ | refine blk_drew ?_ | refine blk_alloc ?_ _)); exact BK557.out) Try.underlying73 rfl (by kernel_rfl)) rfl ?_
         exact ⟨_, _, by first | rfl | (simp [errW_none, errW_some] <;> rfl) | (simp [*, errW_none, errW_some] <;> rfl), by first | exact Kd.R_nil _ _ _ _ _ | exact Kd.N_nil _ _ _ _ _ | exact Kd.V_nil _ _ _ _ _ | exact Kd.Q_nil _ _ _ _ _ | exact Kd.S_nil _ _ _ _ _, by first | exact Kd.R_nil _ _ _ _ _ | exact Kd.N_nil _ _ _ _ _ | exact Kd.V_nil _ _ _ _ _ | exact Kd.Q_nil _ _ _ _ _ | exact Kd.S_nil _ _ _ _ _, bz HB⟩
        ·replace c16 := Bool.eq_false_iff.mpr c16
         subst c16
         have H1 : (if 0 ≤ (wrap64 ((wrap64 (Go.bits .and .u8 (rd l0 0) 15)) * 4)) then (if (wrap64 ((wrap64 (Go.bits .and .u8 (rd l0 0) 15)) * 4)) ≤ (l0.length : Int) then ((lychref1_Add.f kj13 0 (l0.take ((wrap64 ((wrap64 (Go.bits .and .u8 (rd l0 0) 15)) * 4)) : Int).toNat)).bind fun t562 => ((lychref1_Fold.f kj13 t562).bind fun t563 => (if t563 = 65535 then ((lychref1_Get16.f l0 6).bind fun t564 => (if 1 < (l0.length : Int) then ((lychref1_Get16.f l0 4).bind fun t566 => (if 8 < (l0.length : Int) then (if 9 < (l0.length : Int) then ((lychref1_Get32.f l0 12).bind fun t569 => ((lychref1_Get32.f l0 16).bind fun t570 => ((lychref1_cut.f l0 20 (wrap64 ((wrap64 (Go.bits .and .u8 (rd l0 0) 15)) * 4))).bind fun t571 => ((lychref1_cut.f l0 (wrap64 ((wrap64 (Go.bits .and .u8 (rd l0 0) 15)) * 4)) (wrap64 (t559))).bind fun t574 => (some (rd l0 1, rd l0 8, rd l0 9, t566, (t564 / 8192) % 256, Go.bits .and .u16 t564 8191, t569, t570, t571, t574, 0)))))) else (none)) else (none))) else (none))) else (some (0, 0, 0, 0, 0, 0, 0, 0, ([] : List Int), ([] : List Int), 22))))) else (none)) else (none)) = some (r1, r2, r3, r4, r5, r6, r7, r8, r9, r10, r11) := by rw [if_neg (show ¬ (false = true) by decide)] at H; exact H
         clear H
         have H := H1
         clear H1
         obtain ⟨ji18, hji18⟩ : ∃ j_ : Int, (wrap64 ((wrap64 (Go.bits .and .u8 (rd l0 0) 15)) * 4)) = j_ := ⟨_, rfl⟩
         replace H : (if 0 ≤ (ji18) then (if (ji18) ≤ (l0.length : Int) then ((lychref1_Add.f kj13 0 (l0.take ((ji18) : Int).toNat)).bind fun t562 => ((lychref1_Fold.f kj13 t562).bind fun t563 => (if t563 = 65535 then ((lychref1_Get16.f l0 6).bind fun t564 => (if 1 < (l0.length : Int) then ((lychref1_Get16.f l0 4).bind fun t566 => (if 8 < (l0.length : Int) then (if 9 < (l0.length : Int) then ((lychref1_Get32.f l0 12).bind fun t569 => ((lychref1_Get32.f l0 16).bind fun t570 => ((lychref1_cut.f l0 20 (ji18)).bind fun t571 => ((lychref1_cut.f l0 (ji18) (wrap64 (t559))).bind fun t574 => (some (rd l0 1, rd l0 8, rd l0 9, t566, (t564 / 8192) % 256, Go.bits .and .u16 t564 8191, t569, t570, t571, t574, 0)))))) else (none)) else (none))) else (none))) else (some (0, 0, 0, 0, 0, 0, 0, 0, ([] : List Int), ([] : List Int), 22))))) else (none)) else (none)) = some (r1, r2, r3, r4, r5, r6, r7, r8, r9, r10, r11) := by first | (rw [hji18] at H; exact H) | (simp only [hji18] at H ⊢; exact H)
         have hji18w : (IntKind.i64.wrap ((wrap64 (Go.bits .and .u8 (rd l0 0) 15)) * 4)) = ji18 := (i64_w _).trans hji18
         by_cases c19 : 0 ≤ (ji18)
         ·rw [if_pos c19] at H
          have c19b0 := eq_true c19
          have c19b1 : decide (0 ≤ (ji18)) = true := decide_eq_true c19
          clear c19
          by_cases c20 : (ji18) ≤ (l0.length : Int)
          ·rw [if_pos c20] at H
           have c20b0 := eq_true c20
           have c20b1 : decide ((ji18) ≤ (l0.length : Int)) = true := decide_eq_true c20
           clear c20
           replace H := Option.bind_eq_some_iff.mp H
           obtain ⟨t562, A210, H⟩ := H
           replace H : ((lychref1_Fold.f kj13 t562).bind fun t563 => (if t563 = 65535 then ((lychref1_Get16.f l0 6).bind fun t564 => (if 1 < (l0.length : Int) then ((lychref1_Get16.f l0 4).bind fun t566 => (if 8 < (l0.length : Int) then (if 9 < (l0.length : Int) then ((lychref1_Get32.f l0 12).bind fun t569 => ((lychref1_Get32.f l0 16).bind fun t570 => ((lychref1_cut.f l0 20 (ji18)).bind fun t571 => ((lychref1_cut.f l0 (ji18) (wrap64 (t559))).bind fun t574 => (some (rd l0 1, rd l0 8, rd l0 9, t566, (t564 / 8192) % 256, Go.bits .and .u16 t564 8191, t569, t570, t571, t574, 0)))))) else (none)) else (none))) else (none))) else (some (0, 0, 0, 0, 0, 0, 0, 0, ([] : List Int), ([] : List Int), 22)))) = some (r1, r2, r3, r4, r5, r6, r7, r8, r9, r10, r11) := H
           have A21 := Aside0.mk A210
           clear A210
           replace H := Option.bind_eq_some_iff.mp H
           obtain ⟨t563, A220, H⟩ := H
           replace H : (if t563 = 65535 then ((lychref1_Get16.f l0 6).bind fun t564 => (if 1 < (l0.length : Int) then ((lychref1_Get16.f l0 4).bind fun t566 => (if 8 < (l0.length : Int) then (if 9 < (l0.length : Int) then ((lychref1_Get32.f l0 12).bind fun t569 => ((lychref1_Get32.f l0 16).bind fun t570 => ((lychref1_cut.f l0 20 (ji18)).bind fun t571 => ((lychref1_cut.f l0 (ji18) (wrap64 (t559))).bind fun t574 => (some (rd l0 1, rd l0 8, rd l0 9, t566, (t564 / 8192) % 256, Go.bits .and .u16 t564 8191, t569, t570, t571, t574, 0)))))) else (none)) else (none))) else (none))) else (some (0, 0, 0, 0, 0, 0, 0, 0, ([] : List Int), ([] : List Int), 22))) = some (r1, r2, r3, r4, r5, r6, r7, r8, r9, r10, r11) := H
           have A22 := Aside0.mk A220
           clear A220
           by_cases c23 : t563 = 65535
           ·rw [if_pos c23] at H
            have c23b0 : (t563 == 65535) = true := beq_iff_eq.mpr c23
            have c23b1 : (t563 != 65535) = false := bne_eq_false_iff_eq.mpr c23
            clear c23
            replace H := Option.bind_eq_some_iff.mp H
            obtain ⟨t564, A240, H⟩ := H
            replace H : (if 1 < (l0.length : Int) then ((lychref1_Get16.f l0 4).bind fun t566 => (if 8 < (l0.length : Int) then (if 9 < (l0.length : Int) then ((lychref1_Get32.f l0 12).bind fun t569 => ((lychref1_Get32.f l0 16).bind fun t570 => ((lychref1_cut.f l0 20 (ji18)).bind fun t571 => ((lychref1_cut.f l0 (ji18) (wrap64 (t559))).bind fun t574 => (some (rd l0 1, rd l0 8, rd l0 9, t566, (t564 / 8192) % 256, Go.bits .and .u16 t564 8191, t569, t570, t571, t574, 0)))))) else (none)) else (none))) else (none)) = some (r1, r2, r3, r4, r5, r6, r7, r8, r9, r10, r11) := H
            have A24 := Aside0.mk A240
            clear A240
            by_cases c25 : 1 < (l0.length : Int)
            ·rw [if_pos c25] at H
             have c25b0 : decide (1 < (l0.length : Int)) = true := decide_eq_true c25
             have c25b1 : decide (1 < l0.length) = true := decide_eq_true (by omega)
             clear c25
             replace H := Option.bind_eq_some_iff.mp H
             obtain ⟨t566, A260, H⟩ := H
             replace H : (if 8 < (l0.length : Int) then (if 9 < (l0.length : Int) then ((lychref1_Get32.f l0 12).bind fun t569 => ((lychref1_Get32.f l0 16).bind fun t570 => ((lychref1_cut.f l0 20 (ji18)).bind fun t571 => ((lychref1_cut.f l0 (ji18) (wrap64 (t559))).bind fun t574 => (some (rd l0 1, rd l0 8, rd l0 9, t566, (t564 / 8192) % 256, Go.bits .and .u16 t564 8191, t569, t570, t571, t574, 0)))))) else (none)) else (none)) = some (r1, r2, r3, r4, r5, r6, r7, r8, r9, r10, r11) := H
             have A26 := Aside0.mk A260
             clear A260
             by_cases c27 : 8 < (l0.length : Int)
             ·rw [if_pos c27] at H
              have c27b0 : decide (8 < (l0.length : Int)) = true := decide_eq_true c27
              have c27b1 : decide (8 < l0.length) = true := decide_eq_true (by omega)
              clear c27
              by_cases c28 : 9 < (l0.length : Int)
              ·rw [if_pos c28] at H
               have c28b0 : decide (9 < (l0.length : Int)) = true := decide_eq_true c28
               have c28b1 : decide (9 < l0.length) = true := decide_eq_true (by omega)
               clear c28
               replace H := Option.bind_eq_some_iff.mp H
               obtain ⟨t569, A290, H⟩ := H
               replace H : ((lychref1_Get32.f l0 16).bind fun t570 => ((lychref1_cut.f l0 20 (ji18)).bind fun t571 => ((lychref1_cut.f l0 (ji18) (wrap64 (t559))).bind fun t574 => (some (rd l0 1, rd l0 8, rd l0 9, t566, (t564 / 8192) % 256, Go.bits .and .u16 t564 8191, t569, t570, t571, t574, 0))))) = some (r1, r2, r3, r4, r5, r6, r7, r8, r9, r10, r11) := H
               have A29 := Aside0.mk A290
               clear A290
               replace H := Option.bind_eq_some_iff.mp H
               obtain ⟨t570, A300, H⟩ := H
               replace H : ((lychref1_cut.f l0 20 (ji18)).bind fun t571 => ((lychref1_cut.f l0 (ji18) (wrap64 (t559))).bind fun t574 => (some (rd l0 1, rd l0 8, rd l0 9, t566, (t564 / 8192) % 256, Go.bits .and .u16 t564 8191, t569, t570, t571, t574, 0)))) = some (r1, r2, r3, r4, r5, r6, r7, r8, r9, r10, r11) := H
               have A30 := Aside0.mk A300
               clear A300
               replace H := Option.bind_eq_some_iff.mp H
               obtain ⟨t571, A310, H⟩ := H
               replace H : ((lychref1_cut.f l0 (ji18) (wrap64 (t559))).bind fun t574 => (some (rd l0 1, rd l0 8, rd l0 9, t566, (t564 / 8192) % 256, Go.bits .and .u16 t564 8191, t569, t570, t571, t574, 0))) = some (r1, r2, r3, r4, r5, r6, r7, r8, r9, r10, r11) := H
               have A31 := Aside0.mk A310
               clear A310
               replace H := Option.bind_eq_some_iff.mp H
               obtain ⟨t574, A320, H⟩ := H
               replace H : (some (rd l0 1, rd l0 8, rd l0 9, t566, (t564 / 8192) % 256, Go.bits .and .u16 t564 8191, t569, t570, t571, t574, 0)) = some (r1, r2, r3, r4, r5, r6, r7, r8, r9, r10, r11) := H
               have A32 := Aside0.mk A320
               clear A320
               simp only [Option.some.injEq, Prod.mk.injEq] at H
               obtain ⟨rfl, rfl, rfl, rfl, rfl, rfl, rfl, rfl, rfl, rfl, rfl⟩ := H
               obtain ⟨i033, hi033, _, hsz33, _⟩ := info_parts info5
               obtain ⟨hcut33, hA33, hC33⟩ := print_take_of (P := Try.prog) (Value.int .u8) 0 23 5 .i64 Try.underlying23 hi033 hsz33 (some ad558) c0 l0 (ji18) (of_decide_eq_true (by first | (with_reducible assumption) | assumption)) (of_decide_eq_true (by first | (with_reducible assumption) | assumption)) HC0.out
               have HR561 := Aside0.mk (Kd.C_of_reads (h1 := fun _ => rfl) (hA33 _ (Kd.reads_of_C HR0.out)))
               have HC561 := Aside0.mk hC33
               clear hA33 hC33 hi033 hsz33
               try go_wp2_with (first | ((with_reducible refine gate_callee (f := 80) rfl ?_); refine goesL_ (some 49) rfl rfl Try.func80 (by kernel_rfl) rfl #[.int .u32 0, .slice (some ad558) (l0.take ((ji18) : Int).toNat).length c0] rfl (by (try simp only [List.map_toArray, List.map_cons, List.map_nil]); first | done | (rw [show (l0.take ((ji18) : Int).toNat).length = (ji18).toNat from (by rw [List.length_take]; have h_ : ((ji18) : Int) ≤ (l0.length : Int) := of_decide_eq_true (by first | (with_reducible assumption) | assumption); omega)] <;> rfl) | (simp only [hji18]; rfl) | rfl | (simp only [List.length_drop, List.length_take]; rfl) | (go_simp; done) | (simp [Act.eval, IntKind.signed]; done) | (simp [Act.eval, IntKind.signed]; rfl)) ?_; (with_reducible refine (lychref1_Add.calls kj13 0 _ _ (l0.take ((ji18) : Int).toNat) t562 _ ?side1 ?side2 A21.out).mono ?_); (case side1 => exact Kd.C_below HR561.out (bz HB)); (case side2 => exact HC561.out); rintro e w34 ⟨rfl, hb⟩; refine ⟨_, rfl, ?_⟩; have n0_ := Aside0.mk (blk_below (kz BK557) hb); have n1_ := Aside0.mk (below_step (bz HB) hb); clear BK557; clear HB; have BK557 := n0_; have HB := n1_; clear n0_ n1_; (try clear hb); (try clear hb2); (try clear hk); (try clear hi)) | ((with_reducible refine gate_callee (f := 79) rfl ?_); refine gL 50 Try.func79 #[.int .u32 t562] ?_; (with_reducible refine (lychref1_Fold.calls kj13 t562 t563 _ A22.out).mono ?_); rintro e w' ⟨rfl, ⟨nd, rfl⟩⟩; refine ⟨_, rfl, ?_⟩; (try (rw [drewN_self w34]; generalize hq_ : World.drewN w34 _ = w34; have n0_ : Aside0 (w34.heap[gb557]? = some (.cells #[.int .u8 0, .int .u8 0, .int .u8 0, .int .u16 0, .int .u8 0, .int .u16 0, .int .u32 0, .int .u32 0, .slice none 0 0, .slice none 0 0] 73 (0, 0))) := ⟨by rw [← hq_]; exact (kz BK557)⟩; have n1_ : Aside0 (Below w.heap.size w w34) := ⟨by rw [← hq_]; exact bz HB⟩; clear BK557 HB hq_; have BK557 := n0_; have HB := n1_; clear n0_ n1_))) | ((with_reducible refine gate_callee (f := 64) rfl ?_); refine gL 54 Try.func64 #[.slice (some ad558) l0.length c0, .int .i64 6] ?_; (with_reducible refine (lychref1_Get16.calls _ _ l0 6 t564 _ ?side1 ?side2 A24.out).mono ?_); (case side1 => exact Kd.C_below HR0.out (bz HB)); (case side2 => exact HC0.out); rintro e w' ⟨rfl, ⟨nd, rfl⟩⟩; refine ⟨_, rfl, ?_⟩; (try (rw [drewN_self w34]; generalize hq_ : World.drewN w34 _ = w34; have n0_ : Aside0 (w34.heap[gb557]? = some (.cells #[.int .u8 0, .int .u8 0, .int .u8 0, .int .u16 0, .int .u8 0, .int .u16 0, .int .u32 0, .int .u32 0, .slice none 0 0, .slice none 0 0] 73 (0, 0))) := ⟨by rw [← hq_]; exact (kz BK557)⟩; have n1_ : Aside0 (Below w.heap.size w w34) := ⟨by rw [← hq_]; exact bz HB⟩; clear BK557 HB hq_; have BK557 := n0_; have HB := n1_; clear n0_ n1_))))
               have n0_ := Aside0.mk (blk_drew BK557.out)
               have n1_ := Aside0.mk (below_drew1 HB.out)
               clear BK557
               clear HB
               have BK557 := n0_
               have HB := n1_
               clear n0_ n1_
               have p565 : 0 ≤ (1 : Int) := (by omega)
               have q565 : 1 < (l0.length : Int) := of_decide_eq_true (by first | (with_reducible assumption) | assumption)
               obtain ⟨ad565, e565, hx565_0⟩ := Kd.at_int HR0.out 1 p565 q565
               have hw565_0 := hx565_0
               (try rw [show ((1 : Int)).toNat = 1 from rfl] at hw565_0)
               (try rw [show 1 * 1 = 1 from rfl] at hw565_0)
               (try simp only [Nat.reduceMul, Nat.reduceEqDiff, Go.Addr.add, ↓reduceIte] at hw565_0)
               obtain rfl : ad558 = ad565 := (by injection e565)
               (try simp only [show (1 : Int).toNat = 1 from rfl, Nat.reduceMul, Nat.reduceEqDiff, Go.Addr.add, ↓reduceIte] at hx565_0)
               have qi565 : (1 < l0.length) = True := eq_true (by omega)
               (try rw [show ((1 : Int)).toNat = 1 from rfl] at hx565_0)
               replace hx565_0 := (HB.out.cell (World.block_lt_of_cell? w _ hx565_0)).trans hx565_0
               replace p565 := eq_true p565
               replace q565 := eq_true q565
               have p567 : 0 ≤ (8 : Int) := (by omega)
               have q567 : 8 < (l0.length : Int) := of_decide_eq_true (by first | (with_reducible assumption) | assumption)
               obtain ⟨ad567, e567, hx567_0⟩ := Kd.at_int HR0.out 8 p567 q567
               have hw567_0 := hx567_0
               (try rw [show ((8 : Int)).toNat = 8 from rfl] at hw567_0)
               (try rw [show 8 * 1 = 8 from rfl] at hw567_0)
               (try simp only [Nat.reduceMul, Nat.reduceEqDiff, Go.Addr.add, ↓reduceIte] at hw567_0)
               obtain rfl : ad558 = ad567 := (by injection e567)
               (try simp only [show (8 : Int).toNat = 8 from rfl, Nat.reduceMul, Nat.reduceEqDiff, Go.Addr.add, ↓reduceIte] at hx567_0)
               have qi567 : (8 < l0.length) = True := eq_true (by omega)
               (try rw [show ((8 : Int)).toNat = 8 from rfl] at hx567_0)
               replace hx567_0 := (HB.out.cell (World.block_lt_of_cell? w _ hx567_0)).trans hx567_0
               replace p567 := eq_true p567
               replace q567 := eq_true q567
               have p568 : 0 ≤ (9 : Int) := (by omega)
               have q568 : 9 < (l0.length : Int) := of_decide_eq_true (by first | (with_reducible assumption) | assumption)
               obtain ⟨ad568, e568, hx568_0⟩ := Kd.at_int HR0.out 9 p568 q568
               have hw568_0 := hx568_0
               (try rw [show ((9 : Int)).toNat = 9 from rfl] at hw568_0)
               (try rw [show 9 * 1 = 9 from rfl] at hw568_0)
               (try simp only [Nat.reduceMul, Nat.reduceEqDiff, Go.Addr.add, ↓reduceIte] at hw568_0)
               obtain rfl : ad558 = ad568 := (by injection e568)
               (try simp only [show (9 : Int).toNat = 9 from rfl, Nat.reduceMul, Nat.reduceEqDiff, Go.Addr.add, ↓reduceIte] at hx568_0)
               have qi568 : (9 < l0.length) = True := eq_true (by omega)
               (try rw [show ((9 : Int)).toNat = 9 from rfl] at hx568_0)
               replace hx568_0 := (HB.out.cell (World.block_lt_of_cell? w _ hx568_0)).trans hx568_0
               replace p568 := eq_true p568
               replace q568 := eq_true q568
               refine start_ (n := 30) (S := fun w' => w'.cell? ⟨ad558.block, ad558.off + 1, none⟩ = some (.int .u8 (rd l0 1)) ∧ w'.cell? ⟨ad558.block, ad558.off + 8, none⟩ = some (.int .u8 (rd l0 8)) ∧ w'.cell? ⟨ad558.block, ad558.off + 9, none⟩ = some (.int .u8 (rd l0 9))) (ds := []) #[false, false, false, false, false, false, false, false, false, false, false, false, false, false, false, false, false, false, false, false, false, false, false, false, false, false, false, false, false, false] (by kernel_rfl) rfl rfl ⟨((HB.out.cell (World.block_lt_of_cell? w _ hw565_0)).trans hw565_0), ((HB.out.cell (World.block_lt_of_cell? w _ hw567_0)).trans hw567_0), ((HB.out.cell (World.block_lt_of_cell? w _ hw568_0)).trans hw568_0)⟩ (fun hHeld => ?_); refine with_tabW lychref1_Ip.tab11 lychref1_Ip.bits11 (fun HT_ HW_ => ?_)
               generalize w34.drew = w35 at BK557 HB hx565_0 hx567_0 hx568_0 hHeld ⊢
               refine pz 0 55 HT_ ?_
               refine pz 1 56 HT_ ?_
               refine pz 3 58 HT_ ?_
               refine pz 5 60 HT_ ?_
               refine pz 6 61 HT_ ?_
               refine pz 7 62 HT_ ?_
               refine pz 8 63 HT_ ?_
               refine pz 9 64 HT_ ?_
               refine pz 10 65 HT_ ?_
               refine pz 11 66 HT_ ?_
               refine pz 13 68 HT_ ?_
               refine pz 14 69 HT_ ?_
               refine pz 16 71 HT_ ?_
               refine pz 18 73 HT_ ?_
               refine pz 20 75 HT_ ?_
               refine pz 21 76 HT_ ?_
               refine pz 23 78 HT_ ?_
               refine pz 24 79 HT_ ?_
               refine pz 25 80 HT_ ?_
               refine take_ (i := 2) (N := some 57) (v := ?_) (a' := ?_) #[true, true, true, true, false, true, true, true, true, true, true, true, false, true, true, false, true, false, true, false, true, true, false, true, true, true, false, false, false, false] rfl rfl (take_ofW HT_.out HW_.out (by kernel_rfl)) (fun _ _ _ h => h) (Or.inl ⟨by rfl, ?_⟩) hHeld ?_ ?_
               rotate_left
               ·rintro w' ⟨s0, s1, s2⟩
                go_simp
                with_reducible rfl
               rotate_left
               ·simp only [ps_]
                rfl
               refine take_ (i := 12) (N := some 67) (v := ?_) (a' := ?_) #[true, true, true, true, false, true, true, true, true, true, true, true, true, true, true, false, true, false, true, false, true, true, false, true, true, true, false, false, false, false] rfl rfl (take_ofW HT_.out HW_.out (by kernel_rfl)) (fun _ _ _ h => h) (Or.inl ⟨by rfl, ?_⟩) hHeld ?_ ?_
               rotate_left
               ·rintro w' ⟨s0, s1, s2⟩
                go_simp
                with_reducible rfl
               rotate_left
               ·simp only [ps_]
                rfl
               refine take_ (i := 15) (N := some 70) (v := ?_) (a' := ?_) #[true, true, true, true, false, true, true, true, true, true, true, true, true, true, true, true, true, false, true, false, true, true, false, true, true, true, false, false, false, false] rfl rfl (take_ofW HT_.out HW_.out (by kernel_rfl)) (fun _ _ _ h => h) (Or.inl ⟨by rfl, ?_⟩) hHeld ?_ ?_
               rotate_left
               ·rintro w' ⟨s0, s1, s2⟩
                go_simp
                with_reducible rfl
               rotate_left
               ·simp only [ps_]
                rfl
               refine oz 4 (some 59) HT_ (fun K hK => ?_)
               refine gG Try.func64 #[.slice (some ad558) l0.length c0, .int .i64 4] ?_
               with_reducible refine (lychref1_Get16.calls _ _ l0 4 t566 _ ?side1 ?side2 A26.out).mono ?_
               (case side1 => exact Kd.C_below HR0.out (bz HB))
               (case side2 => exact HC0.out)
               rintro e w' ⟨rfl, ⟨nd, rfl⟩⟩
               refine ⟨_, rfl, ?_⟩
               refine hK.out _ _ ⟨((HB.out.cell (World.block_lt_of_cell? w _ hw565_0)).trans hw565_0), ((HB.out.cell (World.block_lt_of_cell? w _ hw567_0)).trans hw567_0), ((HB.out.cell (World.block_lt_of_cell? w _ hw568_0)).trans hw568_0)⟩ (fun hHeld => ?_)
               clear hK K
               refine nz 59 ?_
               refine oz 17 (some 72) HT_ (fun K hK => ?_)
               refine gG Try.func81 #[.slice (some ad558) l0.length c0, .int .i64 12] ?_
               with_reducible refine (lychref1_Get32.calls _ _ l0 12 t569 _ ?side1 ?side2 A29.out).mono ?_
               (case side1 => exact Kd.C_below HR0.out (bz HB))
               (case side2 => exact HC0.out)
               rintro e w' ⟨rfl, ⟨nd, rfl⟩⟩
               refine ⟨_, rfl, ?_⟩
               refine hK.out _ _ ⟨((HB.out.cell (World.block_lt_of_cell? w _ hw565_0)).trans hw565_0), ((HB.out.cell (World.block_lt_of_cell? w _ hw567_0)).trans hw567_0), ((HB.out.cell (World.block_lt_of_cell? w _ hw568_0)).trans hw568_0)⟩ (fun hHeld => ?_)
               clear hK K
               refine nz 72 ?_
               refine oz 19 (some 74) HT_ (fun K hK => ?_)
               refine gG Try.func81 #[.slice (some ad558) l0.length c0, .int .i64 16] ?_
               with_reducible refine (lychref1_Get32.calls _ _ l0 16 t570 _ ?side1 ?side2 A30.out).mono ?_
               (case side1 => exact Kd.C_below HR0.out (bz HB))
               (case side2 => exact HC0.out)
               rintro e w' ⟨rfl, ⟨nd, rfl⟩⟩
               refine ⟨_, rfl, ?_⟩
               refine hK.out _ _ ⟨((HB.out.cell (World.block_lt_of_cell? w _ hw565_0)).trans hw565_0), ((HB.out.cell (World.block_lt_of_cell? w _ hw567_0)).trans hw567_0), ((HB.out.cell (World.block_lt_of_cell? w _ hw568_0)).trans hw568_0)⟩ (fun hHeld => ?_)
               clear hK K
               refine nz 74 ?_
               refine oz 22 (some 77) HT_ (fun K hK => ?_)
               refine goes_ Try.func65 (by kernel_rfl) rfl #[.slice (some ad558) l0.length c0, .int .i64 20, .int .i64 (ji18)] (by rfl) rfl rfl (by (try simp only [List.map_toArray, List.map_cons, List.map_nil]); first | done | (simp only [hji18]; rfl) | rfl | (simp only [List.length_drop, List.length_take]; rfl) | (go_simp; done) | (simp [Act.eval, IntKind.signed]; done) | (simp [Act.eval, IntKind.signed]; rfl)) ?_
               with_reducible refine (lychref1_cut.calls _ _ l0 20 (ji18) t571 _ ?side1 ?side2 A31.out).mono ?_
               (case side1 => exact Kd.C_below HR0.out (bz HB))
               (case side2 => exact HC0.out)
               rintro e w36 ⟨v572, rfl, ho0, hb⟩
               refine ⟨_, rfl, ?_⟩
               have n0_ := Aside0.mk (Kd.R_lower ho0 (below_size (bz HB)))
               have n1_ := Aside0.mk (blk_below (kz BK557) hb)
               have n2_ := Aside0.mk (below_step (bz HB) hb)
               clear BK557
               clear HB
               have HO573 := n0_
               have BK557 := n1_
               have HB := n2_
               clear n0_ n1_ n2_
               (try clear hb)
               (try clear hb2)
               (try clear hk)
               (try clear hi)
               (try clear ho0)
               refine hK.out _ _ ⟨((HB.out.cell (World.block_lt_of_cell? w _ hw565_0)).trans hw565_0), ((HB.out.cell (World.block_lt_of_cell? w _ hw567_0)).trans hw567_0), ((HB.out.cell (World.block_lt_of_cell? w _ hw568_0)).trans hw568_0)⟩ (fun hHeld => ?_)
               clear hK K
               refine nz 77 ?_
               refine oz 26 (some 81) HT_ (fun K hK => ?_)
               refine goes_ Try.func65 (by kernel_rfl) rfl #[.slice (some ad558) l0.length c0, .int .i64 (ji18), .int .i64 (wrap64 (t559))] (by rfl) rfl rfl (by (try simp only [List.map_toArray, List.map_cons, List.map_nil]); first | done | (simp only [hji18]; rfl) | rfl | (simp only [List.length_drop, List.length_take]; rfl) | (go_simp; done) | (simp [Act.eval, IntKind.signed]; done) | (simp [Act.eval, IntKind.signed]; rfl)) ?_
               with_reducible refine (lychref1_cut.calls _ _ l0 (ji18) (wrap64 (t559)) t574 _ ?side1 ?side2 A32.out).mono ?_
               (case side1 => exact Kd.C_below HR0.out (bz HB))
               (case side2 => exact HC0.out)
               rintro e w37 ⟨v575, rfl, ho0, hb⟩
               refine ⟨_, rfl, ?_⟩
               have n0_ := Aside0.mk (Kd.R_elder' (Kd.rz HO573) (Kd.R_base ho0) hb)
               have n1_ := Aside0.mk (Kd.R_lower (Kd.R_new' ho0 (Kd.R_lt (Kd.rz HO573))) (below_size (bz HB)))
               have n2_ := Aside0.mk (blk_below (kz BK557) hb)
               have n3_ := Aside0.mk (below_step (bz HB) hb)
               clear HO573
               clear BK557
               clear HB
               have HO573 := n0_
               have HO576 := n1_
               have BK557 := n2_
               have HB := n3_
               clear n0_ n1_ n2_ n3_
               (try clear hb)
               (try clear hb2)
               (try clear hk)
               (try clear hi)
               (try clear ho0)
               obtain ⟨Ao38, co38, eo38⟩ := Kd.R_slice HO576.out
               (first | subst eo38 | (injection eo38 with f1_ f2_ f3_; have f4_ := f1_.symm; have f5_ := f3_.symm; clear f1_ f2_ f3_; subst f4_; subst f5_))
               obtain ⟨Ao39, co39, eo39⟩ := Kd.R_slice HO573.out
               (first | subst eo39 | (injection eo39 with f1_ f2_ f3_; have f4_ := f1_.symm; have f5_ := f3_.symm; clear f1_ f2_ f3_; subst f4_; subst f5_))
               refine hK.out _ _ ⟨((HB.out.cell (World.block_lt_of_cell? w _ hw565_0)).trans hw565_0), ((HB.out.cell (World.block_lt_of_cell? w _ hw567_0)).trans hw567_0), ((HB.out.cell (World.block_lt_of_cell? w _ hw568_0)).trans hw568_0)⟩ (fun hHeld => ?_)
               clear hK K
               refine nz 81 ?_
               refine pz 27 82 HT_ ?_
               refine oz 28 (none) HT_ (fun K hK => ?_)
               have hs40_ := cs10 BK557.out
               have hfs40_ := blk_frozen BK557.out
               refine skip_ (w1 := ?_) (by rfl) rfl ?_ ?_
               rotate_left
               ·go_simp
                rfl
               refine hK.out _ _ ⟨((cell_far (p := ⟨gb557, _, none⟩) (by first | exact far1 hw565_0 GW557.out | exact far2 hw565_0 GW557.out) _).trans (((cell_far (p := ⟨gb557, _, none⟩) (by first | exact far1 hw565_0 GW557.out | exact far2 hw565_0 GW557.out) _).trans (((cell_far (p := ⟨gb557, _, none⟩) (by first | exact far1 hw565_0 GW557.out | exact far2 hw565_0 GW557.out) _).trans (((cell_far (p := ⟨gb557, _, none⟩) (by first | exact far1 hw565_0 GW557.out | exact far2 hw565_0 GW557.out) _).trans (((cell_far (p := ⟨gb557, _, none⟩) (by first | exact far1 hw565_0 GW557.out | exact far2 hw565_0 GW557.out) _).trans (((cell_far (p := ⟨gb557, _, none⟩) (by first | exact far1 hw565_0 GW557.out | exact far2 hw565_0 GW557.out) _).trans (((cell_far (p := ⟨gb557, _, none⟩) (by first | exact far1 hw565_0 GW557.out | exact far2 hw565_0 GW557.out) _).trans (((cell_far (p := ⟨gb557, _, none⟩) (by first | exact far1 hw565_0 GW557.out | exact far2 hw565_0 GW557.out) _).trans (((cell_far (p := ⟨gb557, _, none⟩) (by first | exact far1 hw565_0 GW557.out | exact far2 hw565_0 GW557.out) _).trans (((cell_far (p := ⟨gb557, _, none⟩) (by first | exact far1 hw565_0 GW557.out | exact far2 hw565_0 GW557.out) _).trans (hHeld.1)))))))))))))))))))), ((cell_far (p := ⟨gb557, _, none⟩) (by first | exact far1 hw567_0 GW557.out | exact far2 hw567_0 GW557.out) _).trans (((cell_far (p := ⟨gb557, _, none⟩) (by first | exact far1 hw567_0 GW557.out | exact far2 hw567_0 GW557.out) _).trans (((cell_far (p := ⟨gb557, _, none⟩) (by first | exact far1 hw567_0 GW557.out | exact far2 hw567_0 GW557.out) _).trans (((cell_far (p := ⟨gb557, _, none⟩) (by first | exact far1 hw567_0 GW557.out | exact far2 hw567_0 GW557.out) _).trans (((cell_far (p := ⟨gb557, _, none⟩) (by first | exact far1 hw567_0 GW557.out | exact far2 hw567_0 GW557.out) _).trans (((cell_far (p := ⟨gb557, _, none⟩) (by first | exact far1 hw567_0 GW557.out | exact far2 hw567_0 GW557.out) _).trans (((cell_far (p := ⟨gb557, _, none⟩) (by first | exact far1 hw567_0 GW557.out | exact far2 hw567_0 GW557.out) _).trans (((cell_far (p := ⟨gb557, _, none⟩) (by first | exact far1 hw567_0 GW557.out | exact far2 hw567_0 GW557.out) _).trans (((cell_far (p := ⟨gb557, _, none⟩) (by first | exact far1 hw567_0 GW557.out | exact far2 hw567_0 GW557.out) _).trans (((cell_far (p := ⟨gb557, _, none⟩) (by first | exact far1 hw567_0 GW557.out | exact far2 hw567_0 GW557.out) _).trans (hHeld.2.1)))))))))))))))))))), ((cell_far (p := ⟨gb557, _, none⟩) (by first | exact far1 hw568_0 GW557.out | exact far2 hw568_0 GW557.out) _).trans (((cell_far (p := ⟨gb557, _, none⟩) (by first | exact far1 hw568_0 GW557.out | exact far2 hw568_0 GW557.out) _).trans (((cell_far (p := ⟨gb557, _, none⟩) (by first | exact far1 hw568_0 GW557.out | exact far2 hw568_0 GW557.out) _).trans (((cell_far (p := ⟨gb557, _, none⟩) (by first | exact far1 hw568_0 GW557.out | exact far2 hw568_0 GW557.out) _).trans (((cell_far (p := ⟨gb557, _, none⟩) (by first | exact far1 hw568_0 GW557.out | exact far2 hw568_0 GW557.out) _).trans (((cell_far (p := ⟨gb557, _, none⟩) (by first | exact far1 hw568_0 GW557.out | exact far2 hw568_0 GW557.out) _).trans (((cell_far (p := ⟨gb557, _, none⟩) (by first | exact far1 hw568_0 GW557.out | exact far2 hw568_0 GW557.out) _).trans (((cell_far (p := ⟨gb557, _, none⟩) (by first | exact far1 hw568_0 GW557.out | exact far2 hw568_0 GW557.out) _).trans (((cell_far (p := ⟨gb557, _, none⟩) (by first | exact far1 hw568_0 GW557.out | exact far2 hw568_0 GW557.out) _).trans (((cell_far (p := ⟨gb557, _, none⟩) (by first | exact far1 hw568_0 GW557.out | exact far2 hw568_0 GW557.out) _).trans (hHeld.2.2))))))))))))))))))))⟩ (fun hHeld => ?_)
               clear hK K
               refine pz 29 3 HT_ ?_
               refine dz HT_ ?_
               try go_wp2
               refine bodyPost_ret (results_ct rfl _ _ gb557 73 #[.int .u8 (rd l0 1), .int .u8 (rd l0 8), .int .u8 (rd l0 9), .int .u16 t566, .int .u8 ((t564 / 8192) % 256), .int .u16 (Go.bits .and .u16 t564 8191), .int .u32 t569, .int .u32 t570, .slice Ao39 t571.length co39, .slice Ao38 t574.length co38] (0, 0) _ rfl (by (with_reducible repeat (first | refine blk_drewN ?_ _ | refine blk_drew ?_ | refine blk_alloc ?_ _)); refine blk_put (cs := #[.int .u8 (rd l0 1), .int .u8 (rd l0 8), .int .u8 (rd l0 9), .int .u16 t566, .int .u8 ((t564 / 8192) % 256), .int .u16 (Go.bits .and .u16 t564 8191), .int .u32 t569, .int .u32 t570, .slice Ao39 t571.length co39, .slice none 0 0]) ?_ 9 _ rfl; (with_reducible repeat (first | refine blk_drewN ?_ _ | refine blk_drew ?_ | refine blk_alloc ?_ _)); refine blk_put (cs := #[.int .u8 (rd l0 1), .int .u8 (rd l0 8), .int .u8 (rd l0 9), .int .u16 t566, .int .u8 ((t564 / 8192) % 256), .int .u16 (Go.bits .and .u16 t564 8191), .int .u32 t569, .int .u32 t570, .slice none 0 0, .slice none 0 0]) ?_ 8 _ rfl; (with_reducible repeat (first | refine blk_drewN ?_ _ | refine blk_drew ?_ | refine blk_alloc ?_ _)); refine blk_put (cs := #[.int .u8 (rd l0 1), .int .u8 (rd l0 8), .int .u8 (rd l0 9), .int .u16 t566, .int .u8 ((t564 / 8192) % 256), .int .u16 (Go.bits .and .u16 t564 8191), .int .u32 t569, .int .u32 0, .slice none 0 0, .slice none 0 0]) ?_ 7 _ rfl; (with_reducible repeat (first | refine blk_drewN ?_ _ | refine blk_drew ?_ | refine blk_alloc ?_ _)); refine blk_put (cs := #[.int .u8 (rd l0 1), .int .u8 (rd l0 8), .int .u8 (rd l0 9), .int .u16 t566, .int .u8 ((t564 / 8192) % 256), .int .u16 (Go.bits .and .u16 t564 8191), .int .u32 0, .int .u32 0, .slice none 0 0, .slice none 0 0]) ?_ 6 _ rfl; (with_reducible repeat (first | refine blk_drewN ?_ _ | refine blk_drew ?_ | refine blk_alloc ?_ _)); refine blk_put (cs := #[.int .u8 (rd l0 1), .int .u8 (rd l0 8), .int .u8 (rd l0 9), .int .u16 t566, .int .u8 ((t564 / 8192) % 256), .int .u16 0, .int .u32 0, .int .u32 0, .slice none 0 0, .slice none 0 0]) ?_ 5 _ rfl; (with_reducible repeat (first | refine blk_drewN ?_ _ | refine blk_drew ?_ | refine blk_alloc ?_ _)); refine blk_put (cs := #[.int .u8 (rd l0 1), .int .u8 (rd l0 8), .int .u8 (rd l0 9), .int .u16 t566, .int .u8 0, .int .u16 0, .int .u32 0, .int .u32 0, .slice none 0 0, .slice none 0 0]) ?_ 4 _ rfl; (with_reducible repeat (first | refine blk_drewN ?_ _ | refine blk_drew ?_ | refine blk_alloc ?_ _)); refine blk_put (cs := #[.int .u8 (rd l0 1), .int .u8 (rd l0 8), .int .u8 (rd l0 9), .int .u16 0, .int .u8 0, .int .u16 0, .int .u32 0, .int .u32 0, .slice none 0 0, .slice none 0 0]) ?_ 3 _ rfl; (with_reducible repeat (first | refine blk_drewN ?_ _ | refine blk_drew ?_ | refine blk_alloc ?_ _)); refine blk_put (cs := #[.int .u8 (rd l0 1), .int .u8 (rd l0 8), .int .u8 0, .int .u16 0, .int .u8 0, .int .u16 0, .int .u32 0, .int .u32 0, .slice none 0 0, .slice none 0 0]) ?_ 2 _ rfl; (with_reducible repeat (first | refine blk_drewN ?_ _ | refine blk_drew ?_ | refine blk_alloc ?_ _)); refine blk_put (cs := #[.int .u8 (rd l0 1), .int .u8 0, .int .u8 0, .int .u16 0, .int .u8 0, .int .u16 0, .int .u32 0, .int .u32 0, .slice none 0 0, .slice none 0 0]) ?_ 1 _ rfl; (with_reducible repeat (first | refine blk_drewN ?_ _ | refine blk_drew ?_ | refine blk_alloc ?_ _)); refine blk_put (cs := #[.int .u8 0, .int .u8 0, .int .u8 0, .int .u16 0, .int .u8 0, .int .u16 0, .int .u32 0, .int .u32 0, .slice none 0 0, .slice none 0 0]) ?_ 0 _ rfl; (with_reducible repeat (first | refine blk_drewN ?_ _ | refine blk_drew ?_ | refine blk_alloc ?_ _)); exact BK557.out) Try.underlying73 rfl (by kernel_rfl)) rfl ?_
               exact ⟨_, _, by first | rfl | (simp [errW_none, errW_some] <;> rfl) | (simp only [← hji18]; first | rfl | (simp [errW_none, errW_some] <;> rfl)) | (simp [*, errW_none, errW_some] <;> rfl), by (with_reducible repeat (first | apply Kd.R_alloc | apply Kd.R_drewN | apply Kd.R_drew)); exact Kd.R_mono (Kd.R_far (p := ⟨gb557, 9, none⟩) (Kd.R_far (p := ⟨gb557, 8, none⟩) (Kd.R_far (p := ⟨gb557, 7, none⟩) (Kd.R_far (p := ⟨gb557, 6, none⟩) (Kd.R_far (p := ⟨gb557, 5, none⟩) (Kd.R_far (p := ⟨gb557, 4, none⟩) (Kd.R_far (p := ⟨gb557, 3, none⟩) (Kd.R_far (p := ⟨gb557, 2, none⟩) (Kd.R_far (p := ⟨gb557, 1, none⟩) (Kd.R_far (p := ⟨gb557, 0, none⟩) (Kd.R_types HO573.out BK557.out (by decide)) (fun _ hk => hk.2) (.int .u8 (rd l0 1))) (fun _ hk => hk.2) (.int .u8 (rd l0 8))) (fun _ hk => hk.2) (.int .u8 (rd l0 9))) (fun _ hk => hk.2) (.int .u16 t566)) (fun _ hk => hk.2) (.int .u8 ((t564 / 8192) % 256))) (fun _ hk => hk.2) (.int .u16 (Go.bits .and .u16 t564 8191))) (fun _ hk => hk.2) (.int .u32 t569)) (fun _ hk => hk.2) (.int .u32 t570)) (fun _ hk => hk.2) (.slice Ao39 t571.length co39)) (fun _ hk => hk.2) (.slice Ao38 t574.length co38)) (fun _ hk => hk.1.2), by (with_reducible repeat (first | apply Kd.R_alloc | apply Kd.R_drewN | apply Kd.R_drew)); exact Kd.R_mono (Kd.R_far (p := ⟨gb557, 9, none⟩) (Kd.R_far (p := ⟨gb557, 8, none⟩) (Kd.R_far (p := ⟨gb557, 7, none⟩) (Kd.R_far (p := ⟨gb557, 6, none⟩) (Kd.R_far (p := ⟨gb557, 5, none⟩) (Kd.R_far (p := ⟨gb557, 4, none⟩) (Kd.R_far (p := ⟨gb557, 3, none⟩) (Kd.R_far (p := ⟨gb557, 2, none⟩) (Kd.R_far (p := ⟨gb557, 1, none⟩) (Kd.R_far (p := ⟨gb557, 0, none⟩) (Kd.R_types HO576.out BK557.out (by decide)) (fun _ hk => hk.2) (.int .u8 (rd l0 1))) (fun _ hk => hk.2) (.int .u8 (rd l0 8))) (fun _ hk => hk.2) (.int .u8 (rd l0 9))) (fun _ hk => hk.2) (.int .u16 t566)) (fun _ hk => hk.2) (.int .u8 ((t564 / 8192) % 256))) (fun _ hk => hk.2) (.int .u16 (Go.bits .and .u16 t564 8191))) (fun _ hk => hk.2) (.int .u32 t569)) (fun _ hk => hk.2) (.int .u32 t570)) (fun _ hk => hk.2) (.slice Ao39 t571.length co39)) (fun _ hk => hk.2) (.slice Ao38 t574.length co38)) (fun _ hk => hk.1.2), bz HB⟩
              ·rw [if_neg c28] at H
               exact absurd H (by simp)
             ·rw [if_neg c27] at H
              exact absurd H (by simp)
            ·rw [if_neg c25] at H
             exact absurd H (by simp)
           ·rw [if_neg c23] at H
            have c23b0 : (t563 == 65535) = false := beq_eq_false_iff_ne.mpr c23
            have c23b1 : (t563 != 65535) = true := bne_iff_ne.mpr c23
            simp only [Option.some.injEq, Prod.mk.injEq] at H
            obtain ⟨rfl, rfl, rfl, rfl, rfl, rfl, rfl, rfl, rfl, rfl, rfl⟩ := H
            obtain ⟨i050, hi050, _, hsz50, _⟩ := info_parts info5
            obtain ⟨hcut50, hA50, hC50⟩ := print_take_of (P := Try.prog) (Value.int .u8) 0 23 5 .i64 Try.underlying23 hi050 hsz50 (some ad558) c0 l0 (ji18) (of_decide_eq_true (by first | (with_reducible assumption) | assumption)) (of_decide_eq_true (by first | (with_reducible assumption) | assumption)) HC0.out
            have HR561 := Aside0.mk (Kd.C_of_reads (h1 := fun _ => rfl) (hA50 _ (Kd.reads_of_C HR0.out)))
            have HC561 := Aside0.mk hC50
            clear hA50 hC50 hi050 hsz50
            go_wp2_with (first | ((with_reducible refine gate_callee (f := 80) rfl ?_); refine goesL_ (some 49) rfl rfl Try.func80 (by kernel_rfl) rfl #[.int .u32 0, .slice (some ad558) (l0.take ((ji18) : Int).toNat).length c0] rfl (by (try simp only [List.map_toArray, List.map_cons, List.map_nil]); first | done | (rw [show (l0.take ((ji18) : Int).toNat).length = (ji18).toNat from (by rw [List.length_take]; have h_ : ((ji18) : Int) ≤ (l0.length : Int) := of_decide_eq_true (by first | (with_reducible assumption) | assumption); omega)] <;> rfl) | (simp only [hji18]; rfl) | rfl | (simp only [List.length_drop, List.length_take]; rfl) | (go_simp; done) | (simp [Act.eval, IntKind.signed]; done) | (simp [Act.eval, IntKind.signed]; rfl)) ?_; (with_reducible refine (lychref1_Add.calls kj13 0 _ _ (l0.take ((ji18) : Int).toNat) t562 _ ?side1 ?side2 A21.out).mono ?_); (case side1 => exact Kd.C_below HR561.out (bz HB)); (case side2 => exact HC561.out); rintro e w51 ⟨rfl, hb⟩; refine ⟨_, rfl, ?_⟩; have n0_ := Aside0.mk (blk_below (kz BK557) hb); have n1_ := Aside0.mk (below_step (bz HB) hb); clear BK557; clear HB; have BK557 := n0_; have HB := n1_; clear n0_ n1_; (try clear hb); (try clear hb2); (try clear hk); (try clear hi)) | ((with_reducible refine gate_callee (f := 79) rfl ?_); refine gL 50 Try.func79 #[.int .u32 t562] ?_; (with_reducible refine (lychref1_Fold.calls kj13 t562 t563 _ A22.out).mono ?_); rintro e w' ⟨rfl, ⟨nd, rfl⟩⟩; refine ⟨_, rfl, ?_⟩; (try (rw [drewN_self w51]; generalize hq_ : World.drewN w51 _ = w51; have n0_ : Aside0 (w51.heap[gb557]? = some (.cells #[.int .u8 0, .int .u8 0, .int .u8 0, .int .u16 0, .int .u8 0, .int .u16 0, .int .u32 0, .int .u32 0, .slice none 0 0, .slice none 0 0] 73 (0, 0))) := ⟨by rw [← hq_]; exact (kz BK557)⟩; have n1_ : Aside0 (Below w.heap.size w w51) := ⟨by rw [← hq_]; exact bz HB⟩; clear BK557 HB hq_; have BK557 := n0_; have HB := n1_; clear n0_ n1_)); have hcz52_0 : w51.cell? ⟨gb557, 0, none⟩ = some (.int .u8 0) := cz BK557.out 0 rfl; have hcz52_1 : w51.cell? ⟨gb557, 1, none⟩ = some (.int .u8 0) := cz BK557.out 1 rfl; have hcz52_2 : w51.cell? ⟨gb557, 2, none⟩ = some (.int .u8 0) := cz BK557.out 2 rfl; have hcz52_3 : w51.cell? ⟨gb557, 3, none⟩ = some (.int .u16 0) := cz BK557.out 3 rfl; have hcz52_4 : w51.cell? ⟨gb557, 4, none⟩ = some (.int .u8 0) := cz BK557.out 4 rfl; have hcz52_5 : w51.cell? ⟨gb557, 5, none⟩ = some (.int .u16 0) := cz BK557.out 5 rfl; have hcz52_6 : w51.cell? ⟨gb557, 6, none⟩ = some (.int .u32 0) := cz BK557.out 6 rfl; have hcz52_7 : w51.cell? ⟨gb557, 7, none⟩ = some (.int .u32 0) := cz BK557.out 7 rfl; have hcz52_8 : w51.cell? ⟨gb557, 8, none⟩ = some (.slice none 0 0) := cz BK557.out 8 rfl; have hcz52_9 : w51.cell? ⟨gb557, 9, none⟩ = some (.slice none 0 0) := cz BK557.out 9 rfl; have hfz52_0 := blk_frozen BK557.out 0; have hfz52_1 := blk_frozen BK557.out 1; have hfz52_2 := blk_frozen BK557.out 2; have hfz52_3 := blk_frozen BK557.out 3; have hfz52_4 := blk_frozen BK557.out 4; have hfz52_5 := blk_frozen BK557.out 5; have hfz52_6 := blk_frozen BK557.out 6; have hfz52_7 := blk_frozen BK557.out 7; have hfz52_8 := blk_frozen BK557.out 8; have hfz52_9 := blk_frozen BK557.out 9))
            refine bodyPost_ret (results_ct rfl _ _ gb557 73 #[.int .u8 0, .int .u8 0, .int .u8 0, .int .u16 0, .int .u8 0, .int .u16 0, .int .u32 0, .int .u32 0, .slice none 0 0, .slice none 0 0] (0, 0) _ rfl (by (repeat (first | with_reducible refine blk_drewN ?_ _ | with_reducible refine blk_drew ?_ | with_reducible refine blk_alloc ?_ _ | refine blk_put (cs := #[.int .u8 0, .int .u8 0, .int .u8 0, .int .u16 0, .int .u8 0, .int .u16 0, .int .u32 0, .int .u32 0, .slice none 0 0, .slice none 0 0]) ?_ _ _ rfl)); (with_reducible repeat (first | refine blk_drewN ?_ _ | refine blk_drew ?_ | refine blk_alloc ?_ _)); exact BK557.out) Try.underlying73 rfl (by kernel_rfl)) rfl ?_
            exact ⟨_, _, by first | rfl | (simp [errW_none, errW_some] <;> rfl) | (simp only [← hji18]; first | rfl | (simp [errW_none, errW_some] <;> rfl)) | (simp [*, errW_none, errW_some] <;> rfl), by first | exact Kd.R_nil _ _ _ _ _ | exact Kd.N_nil _ _ _ _ _ | exact Kd.V_nil _ _ _ _ _ | exact Kd.Q_nil _ _ _ _ _ | exact Kd.S_nil _ _ _ _ _, by first | exact Kd.R_nil _ _ _ _ _ | exact Kd.N_nil _ _ _ _ _ | exact Kd.V_nil _ _ _ _ _ | exact Kd.Q_nil _ _ _ _ _ | exact Kd.S_nil _ _ _ _ _, bz HB⟩
          ·rw [if_neg c20] at H
           exact absurd H (by simp)
         ·rw [if_neg c19] at H
          exact absurd H (by simp)
  ·rw [if_neg c5] at H
   exact absurd H (by simp)
end Go.Proofs.Ytkmimamminddiaa.PB
/- Packets out of bytes: what the proofs of the laws on packets share. -/
namespace Go.Proofs.Ytkmimamminddiaa.Pure
set_option linter.unusedVariables false
set_option linter.unusedSimpArgs false
open Go.RowKit Go.Proofs.Ytkmimamminddiaa.PB Go.Proofs.YtkmimamminddiaaW.PrintWords Go.Proofs.YtkmimamminddiaaW.PrintLast
open Go.Proofs.Ytkmimamminddiaa.Spec Go.Proofs.Ytkmimamminddiaa.BytesEq Go.Proofs.Ytkmimamminddiaa.SumEq
theorem itwo_eq {l : List Int} (h : IsB l) (i : Nat) (hi : i + 2 ≤ l.length) (hl : l.length ≤ 1000000000) : ip_reader_two.f l (i : Int) = some (g16 l i) := get16_eq h i hi hl
theorem ifour_eq {l : List Int} (h : IsB l) (i : Nat) (hi : i + 4 ≤ l.length) (hl : l.length ≤ 1000000000) : ip_reader_four.f l (i : Int) = some (g32 l i) := get32_eq h i hi hl
theorem iclone_eq (l : List Int) (hl : l.length ≤ 1000000000) : ip_reader_byte.f l = some l := by
 unfold ip_reader_byte.f
 rw [if_pos (by omega)]
theorem must_yes {c : Prop} [Decidable c] (h : c) (e : Int) : ip_must.f (decide c) e = some () := by
 unfold ip_must.f
 rw [decide_eq_true h, if_pos rfl]
theorem and16 (i : Nat) (hi : i ≤ 16) {x : Int} (h₀ : 0 ≤ x) (h₁ : x ≤ 65535) : Go.bits .and .u16 x (2 ^ i - 1) = x % 2 ^ i := bits_mask .u16 16 (by decide) wraps_u16 i hi x h₀ (by omega)
def ihead (l : List Int) : Int := 4 * (l.getD 0 0 % 16)
theorem ihead_range (l : List Int) : 0 ≤ ihead l ∧ ihead l ≤ 60 := by unfold ihead; omega
theorem ihead_eq {l : List Int} (h : IsB l) : wrap64 (4 * (wrap64 (Go.bits .and .u8 (rd l 0) 15))) = ihead l := by
 have hg := h.getD 0
 have ea : Go.bits .and .u8 (rd l 0) 15 = l.getD 0 0 % 16 := by rw [rd_nat l 0 0 rfl]; exact and_u8 4 (by omega) hg.1 hg.2
 rw [ea, wrap64_id (n := l.getD 0 0 % 16) (by omega) (by omega), wrap64_id (by omega) (by omega)]
 rfl
theorem ihead_eq2 {l : List Int} (h : IsB l) : wrap64 ((wrap64 (Go.bits .and .u8 (rd l 0) 15)) * 4) = ihead l := by
 have hg := h.getD 0
 have ea : Go.bits .and .u8 (rd l 0) 15 = l.getD 0 0 % 16 := by rw [rd_nat l 0 0 rfl]; exact and_u8 4 (by omega) hg.1 hg.2
 rw [ea, wrap64_id (n := l.getD 0 0 % 16) (by omega) (by omega), wrap64_id (by omega) (by omega)]
 unfold ihead; omega
def isumof (l : List Int) : Int := norm (isum (words (l.take (ihead l).toNat)))
def iodd (l : List Int) : Prop := ¬ (l.getD 0 0 / 16 = 4 ∧ ihead l ≥ 20 ∧ g16 l 2 ≥ ihead l)
instance (l : List Int) : Decidable (iodd l) := inferInstanceAs (Decidable (¬ _))
def iparts (l : List Int) : Int × Int × Int × Int × Int × Int × Int × Int × List Int × List Int :=
 (l.getD 1 0, l.getD 8 0, l.getD 9 0, g16 l 4, g16 l 6 / 8192, g16 l 6 % 8192, g32 l 12, g32 l 16, (l.take (ihead l).toNat).drop 20, (l.take (g16 l 2).toNat).drop (ihead l).toNat)
def iseg (l : List Int) : Int × Int × Int × Int × Int × Int × Int × Int × List Int × List Int × Int :=
 if l.length < 20 then (0, 0, 0, 0, 0, 0, 0, 0, [], [], 20) else if iodd l then (0, 0, 0, 0, 0, 0, 0, 0, [], [], 21) else if (l.length : Int) < g16 l 2 then (0, 0, 0, 0, 0, 0, 0, 0, [], [], 20) else if isumof l ≠ 65535 then (0, 0, 0, 0, 0, 0, 0, 0, [], [], 22) else
 (l.getD 1 0, l.getD 8 0, l.getD 9 0, g16 l 4, g16 l 6 / 8192, g16 l 6 % 8192, g32 l 12, g32 l 16, (l.take (ihead l).toNat).drop 20, (l.take (g16 l 2).toNat).drop (ihead l).toNat, 0)
theorem fold_head {l : List Int} (h : IsB l) (hl : l.length ≤ 1000000000) (k : Nat) (hk : l.length + 4 < k) : ((sum_Add.f k 0 l).bind fun a => sum_Fold.f k a) = some (norm (isum (words l))) := by
 have hr := addw_range (words l) 0 (by omega) (by omega) (words_isW l h)
 have hn := norm_addw (words l) 0 (by omega) (by omega) (words_isW l h)
 rw [add_eq 0 l h hl (by omega) (by omega) k (by omega), Option.bind_some, fold_eq _ hr.1 hr.2 k (by omega), hn, Int.zero_add]
theorem fold_both {l : List Int} (h : IsB l) (hl : l.length ≤ 1000000000) (k : Nat) (hk : l.length + 4 < k) : ∃ a, sum_Add.f k 0 l = some a ∧ sum_Fold.f k a = some (norm (isum (words l))) := Option.bind_eq_some_iff.mp (fold_head h hl k hk)
theorem rfold_both {l : List Int} (h : IsB l) (hl : l.length ≤ 1000000000) (k : Nat) (hk : l.length + 4 < k) : ∃ a, lychref1_Add.f k 0 l = some a ∧ lychref1_Fold.f k a = some (norm (isum (words l))) := by
 have hr := addw_range (words l) 0 (by omega) (by omega) (words_isW l h)
 have hn := norm_addw (words l) 0 (by omega) (by omega) (words_isW l h)
 refine ⟨_, radd_eq 0 l h hl (by omega) (by omega) k (by omega), ?_⟩
 rw [rfold_eq _ hr.1 hr.2 k (by omega), hn, Int.zero_add]
theorem ipacket_eq {l : List Int} (h : IsB l) (hl : l.length ≤ 1000000000) (h20 : 20 ≤ l.length) (ho : ¬ iodd l) (hs : ¬ (l.length : Int) < g16 l 2) (hx : isumof l = 65535) (k : Nat) (hk : l.length + 5 < k) : ip_reader_packet.f k l = some (iparts l) := by
 obtain ⟨k, rfl⟩ : ∃ j, k = j + 1 := ⟨k - 1, by omega⟩
 have hh := ihead_range l
 have hg := g16_range h 2
 have hb6 := g16_range h 6
 have ho' : l.getD 0 0 / 16 = 4 ∧ ihead l ≥ 20 ∧ g16 l 2 ≥ ihead l := Decidable.not_not.mp ho
 obtain ⟨o1, o2, o3⟩ := ho'
 have p0 : 0 ≤ ihead l := hh.1
 have p1 : ihead l ≤ (l.length : Int) := by omega
 have p2 : (0 : Int) < (l.length : Int) := by omega
 have p3 : (1 : Int) < (l.length : Int) := by omega
 have p4 : (8 : Int) < (l.length : Int) := by omega
 have p5 : (9 : Int) < (l.length : Int) := by omega
 have p6 : g16 l 2 ≤ (l.length : Int) := by omega
 have p7 : ((l.take (ihead l).toNat).drop 20).length ≤ 1000000000 := by rw [List.length_drop, List.length_take]; omega
 have p8 : ((l.take (g16 l 2).toNat).drop (ihead l).toNat).length ≤ 1000000000 := by rw [List.length_drop, List.length_take]; omega
 have p9 : (l.length : Int) ≥ 20 := by omega
 have m1 : ip_must.f (decide ((l.length : Int) ≥ 20)) 20 = some () := must_yes p9 20
 have m2 : ip_must.f (decide (g16 l 2 ≥ ihead l)) 21 = some () := must_yes o3 21
 have m3 : ip_must.f (decide ((l.length : Int) ≥ g16 l 2)) 20 = some () := must_yes p6 20
 have e2 := itwo_eq h 2 (by omega) hl
 have e4 := itwo_eq h 4 (by omega) hl
 have e6 := itwo_eq h 6 (by omega) hl
 have e12 := ifour_eq h 12 (by omega) hl
 have e16 := ifour_eq h 16 (by omega) hl
 rw [show ((2 : Nat) : Int) = 2 from rfl] at e2
 rw [show ((4 : Nat) : Int) = 4 from rfl] at e4
 rw [show ((6 : Nat) : Int) = 6 from rfl] at e6
 rw [show ((12 : Nat) : Int) = 12 from rfl] at e12
 rw [show ((16 : Nat) : Int) = 16 from rfl] at e16
 have r0 : rd l 0 = l.getD 0 0 := rd_nat l 0 0 rfl
 have r1 : rd l 1 = l.getD 1 0 := rd_nat l 1 1 rfl
 have r8 : rd l 8 = l.getD 8 0 := rd_nat l 8 8 rfl
 have r9 : rd l 9 = l.getD 9 0 := rd_nat l 9 9 rfl
 have w2 : wrap64 (g16 l 2) = g16 l 2 := wrap64_id (by omega) (by omega)
 have hd := ihead_eq h
 obtain ⟨a, fa, fb⟩ := fold_both (h.take (ihead l).toNat) (by rw [List.length_take]; omega) k (by rw [List.length_take]; omega)
 have fx : norm (isum (words (l.take (ihead l).toNat))) = 65535 := hx
 rw [fx] at fb
 have m22 : ip_must.f ((65535 : Int) == 65535) 22 = some () := by unfold ip_must.f; rw [if_pos (by decide)]
 have ef : g16 l 6 / 8192 % 256 = g16 l 6 / 8192 := by omega
 have ea : Go.bits .and .u16 (g16 l 6) 8191 = g16 l 6 % 8192 := and16 13 (by omega) hb6.1 hb6.2
 unfold ip_reader_packet.f
 rw [m1, Option.bind_some, if_pos p2, e2, Option.bind_some, hd, w2, r0, if_pos o1, if_pos o2, m2, Option.bind_some, ip_reader_packet.j0, m3, Option.bind_some, if_pos p0, if_pos p1, fa, Option.bind_some, fb, Option.bind_some, m22, Option.bind_some, e6, Option.bind_some, if_pos p3, e4, Option.bind_some, if_pos p4, if_pos p5, e12, Option.bind_some, e16, Option.bind_some, if_pos o2,
  iclone_eq _ p7, Option.bind_some, if_pos o3, if_pos p6, iclone_eq _ p8, Option.bind_some, r1, r8, r9, ef, ea]
 rfl
theorem iparse_eq {l : List Int} (h : IsB l) (hl : l.length ≤ 1000000000) (k : Nat) (hk : l.length + 5 < k) : ip_Parse.f k l = some (iseg l) := by
 have hh := ihead_range l
 have hg := g16_range h 2
 have hd := ihead_eq h
 have r0 : rd l 0 = l.getD 0 0 := rd_nat l 0 0 rfl
 unfold ip_Parse.f iseg
 by_cases c1 : l.length < 20
 ·rw [if_pos (by omega), if_pos c1]
 ·have e2 := itwo_eq h 2 (by omega) hl
  rw [show ((2 : Nat) : Int) = 2 from rfl] at e2
  have w2 : wrap64 (g16 l 2) = g16 l 2 := wrap64_id (by omega) (by omega)
  rw [if_neg (by omega), if_neg c1, e2, Option.bind_some, hd, w2, r0]
  by_cases c2 : iodd l
  ·rw [if_neg c2, if_pos c2]
  ·rw [if_pos (Decidable.not_not.mp c2), if_neg c2]
   by_cases c3 : (l.length : Int) < g16 l 2
   ·rw [if_pos c3, if_pos c3]
   ·rw [if_neg c3, if_neg c3]
    obtain ⟨a, fa, fb⟩ := fold_both (h.take (ihead l).toNat) (by rw [List.length_take]; omega) k (by rw [List.length_take]; omega)
    rw [fa, Option.bind_some, fb, Option.bind_some]
    by_cases c4 : isumof l = 65535
    ·have fx : norm (isum (words (l.take (ihead l).toNat))) = 65535 := c4
     rw [if_pos fx, if_neg (fun hne => hne c4), ipacket_eq h hl (by omega) c2 c3 c4 k hk, Option.bind_some]
     rfl
    ·have fx : ¬ norm (isum (words (l.take (ihead l).toNat))) = 65535 := c4
     rw [if_neg fx, if_pos c4]
theorem riparse_eq {l : List Int} (h : IsB l) (hl : l.length ≤ 1000000000) (k : Nat) (hk : l.length + 9 < k) : lychref1_Ip.f k l = some (iseg l) := by
 obtain ⟨k, rfl⟩ : ∃ j, k = j + 2 := ⟨k - 2, by omega⟩
 have hh := ihead_range l
 have hg := g16_range h 2
 have hb6 := g16_range h 6
 have hd := ihead_eq2 h
 have r0 : rd l 0 = l.getD 0 0 := rd_nat l 0 0 rfl
 unfold lychref1_Ip.f iseg
 by_cases c1 : l.length < 20
 ·rw [if_pos (by omega), if_pos c1]
 ·have e2 := get16_eq h 2 (by omega) hl
  rw [show ((2 : Nat) : Int) = 2 from rfl] at e2
  have w2 : wrap64 (g16 l 2) = g16 l 2 := wrap64_id (by omega) (by omega)
  rw [if_neg (by omega), if_neg c1, if_pos (by omega), e2, Option.bind_some, hd, w2, r0]
  by_cases c2 : iodd l
  ·rw [if_pos c2]
   by_cases d1 : l.getD 0 0 / 16 = 4
   ·rw [if_pos d1]
    by_cases d2 : ihead l < 20
    ·rw [if_pos d2, lychref1_Ip.j0, if_pos rfl]
    ·have d3 : g16 l 2 < ihead l := by
      refine Decidable.byContradiction fun hne => c2 ⟨d1, by omega, by omega⟩
     rw [if_neg d2, decide_eq_true d3, lychref1_Ip.j0, if_pos rfl]
   ·rw [if_neg d1, lychref1_Ip.j0, if_pos rfl]
  ·have ho' : l.getD 0 0 / 16 = 4 ∧ ihead l ≥ 20 ∧ g16 l 2 ≥ ihead l := Decidable.not_not.mp c2
   obtain ⟨o1, o2, o3⟩ := ho'
   rw [if_neg c2, if_pos o1, if_neg (by omega), decide_eq_false (by omega), lychref1_Ip.j0, if_neg (by decide)]
   by_cases c3 : (l.length : Int) < g16 l 2
   ·rw [if_pos c3]
    by_cases d4 : (l.length : Int) < ihead l
    ·rw [if_pos d4, lychref1_Ip.j1, if_pos rfl]
    ·rw [if_neg d4, decide_eq_true c3, lychref1_Ip.j1, if_pos rfl]
   ·rw [if_neg c3, if_neg (by omega), decide_eq_false c3, lychref1_Ip.j1, if_neg (by decide), if_pos (by omega), if_pos (by omega)]
    obtain ⟨a, fa, fb⟩ := rfold_both (h.take (ihead l).toNat) (by rw [List.length_take]; omega) k (by rw [List.length_take]; omega)
    rw [fa, Option.bind_some, fb, Option.bind_some]
    by_cases c4 : isumof l = 65535
    ·have fx : norm (isum (words (l.take (ihead l).toNat))) = 65535 := c4
     have e4 := get16_eq h 4 (by omega) hl
     have e6 := get16_eq h 6 (by omega) hl
     have e12 := get32_eq h 12 (by omega) hl
     have e16 := get32_eq h 16 (by omega) hl
     rw [show ((4 : Nat) : Int) = 4 from rfl] at e4
     rw [show ((6 : Nat) : Int) = 6 from rfl] at e6
     rw [show ((12 : Nat) : Int) = 12 from rfl] at e12
     rw [show ((16 : Nat) : Int) = 16 from rfl] at e16
     have r1 : rd l 1 = l.getD 1 0 := rd_nat l 1 1 rfl
     have r8 : rd l 8 = l.getD 8 0 := rd_nat l 8 8 rfl
     have r9 : rd l 9 = l.getD 9 0 := rd_nat l 9 9 rfl
     have f1 := cut_eq l 20 (ihead l).toNat (by omega) (by omega) hl
     have f2 := cut_eq l (ihead l).toNat (g16 l 2).toNat (by omega) (by omega) hl
     rw [show ((20 : Nat) : Int) = 20 from rfl, Int.toNat_of_nonneg (by omega)] at f1
     rw [Int.toNat_of_nonneg (by omega), Int.toNat_of_nonneg (by omega)] at f2
     have ef : g16 l 6 / 8192 % 256 = g16 l 6 / 8192 := by omega
     have ea : Go.bits .and .u16 (g16 l 6) 8191 = g16 l 6 % 8192 := and16 13 (by omega) hb6.1 hb6.2
     rw [if_pos fx, if_neg (fun hne => hne c4), e6, Option.bind_some, if_pos (by omega), e4, Option.bind_some, if_pos (by omega), if_pos (by omega), e12, Option.bind_some, e16, Option.bind_some, f1, Option.bind_some, f2, Option.bind_some, r1, r8, r9, ef, ea]
    ·have fx : ¬ norm (isum (words (l.take (ihead l).toNat))) = 65535 := c4
     rw [if_neg fx, if_pos c4]
end Go.Proofs.Ytkmimamminddiaa.Pure
/- Bytes of packets: what the proofs of the laws on packets share. -/
namespace Go.Proofs.Ytkmimamminddiaa.Pure
set_option linter.unusedVariables false
set_option linter.unusedSimpArgs false
open Go.RowKit Go.Proofs.Ytkmimamminddiaa.PB Go.Proofs.YtkmimamminddiaaW.PrintWords Go.Proofs.YtkmimamminddiaaW.PrintLast
open Go.Proofs.Ytkmimamminddiaa.Spec Go.Proofs.Ytkmimamminddiaa.BytesEq Go.Proofs.Ytkmimamminddiaa.SumEq
def ihd (a t pr i fl of_ s d : Int) (o l : List Int) (x : Int) : List Int := [64 + (20 + (o.length : Int)) / 4, a, (20 + (o.length : Int) + (l.length : Int)) / 256 % 256, (20 + (o.length : Int) + (l.length : Int)) % 256, i / 256 % 256, i % 256, (fl * 8192 + of_) / 256 % 256, (fl * 8192 + of_) % 256, t, pr, x / 256 % 256, x % 256, s / 16777216 % 256, s / 65536 % 256, s / 256 % 256, s % 256, d / 16777216 % 256, d / 65536 % 256, d / 256 % 256, d % 256]
theorem ihd_length (a t pr i fl of_ s d : Int) (o l : List Int) (x : Int) : (ihd a t pr i fl of_ s d o l x).length = 20 := rfl
def ick (a t pr i fl of_ s d : Int) (o l : List Int) : Int := ck (ihd a t pr i fl of_ s d o l 0 ++ o)
def ibytes (a t pr i fl of_ s d : Int) (o l : List Int) : List Int := ihd a t pr i fl of_ s d o l (ick a t pr i fl of_ s d o l) ++ o ++ l
def iwrong (fl of_ : Int) (o : List Int) : Prop := (o.length : Int) % 4 ≠ 0 ∨ (o.length : Int) > 40 ∨ fl > 7 ∨ of_ > 8191
instance (fl of_ : Int) (o : List Int) : Decidable (iwrong fl of_ o) := inferInstanceAs (Decidable (_ ∨ _))
def iout (a t pr i fl of_ s d : Int) (o l : List Int) : List Int × Int := if iwrong fl of_ o then ([], 21) else if 20 + (o.length : Int) + (l.length : Int) > 65535 then ([], 23) else (ibytes a t pr i fl of_ s d o l, 0)
section
variable {a t pr i fl of_ s d : Int} {o l : List Int}
theorem ihd_isB (ha : 0 ≤ a ∧ a ≤ 255) (ht : 0 ≤ t ∧ t ≤ 255) (hp : 0 ≤ pr ∧ pr ≤ 255) (ho : (o.length : Int) ≤ 40) (x : Int) : IsB (ihd a t pr i fl of_ s d o l x) := by
 unfold ihd
 repeat (first | exact .nil | refine .cons (by omega) ?_)
theorem ior (h4 : (o.length : Int) % 4 = 0) (h40 : (o.length : Int) ≤ 40) : Go.bits .or .u8 64 ((wrap64 (Int.tdiv (20 + (o.length : Int)) 4)) % 256) = 64 + (20 + (o.length : Int)) / 4 := by
 have e : (wrap64 (Int.tdiv (20 + (o.length : Int)) 4)) % 256 = (20 + (o.length : Int)) / 4 := by
  rw [Int.tdiv_eq_ediv_of_nonneg (by omega), wrap64_id (by omega) (by omega)]; omega
 rw [e]
 exact or_u8 6 (by omega) (by omega) (by omega) (by omega) (by omega) (by omega)
theorem ibits (hf : 0 ≤ fl ∧ fl ≤ 7) (ho : 0 ≤ of_ ∧ of_ ≤ 8191) : Go.bits .or .u16 (IntKind.u16.wrap ((IntKind.u16.wrap fl) * 8192)) of_ = fl * 8192 + of_ := by
 rw [u16w (n := fl) (by omega) (by omega), u16w (n := fl * 8192) (by omega) (by omega)]
 exact or_u16 13 (by omega) (by omega) (by omega) (by omega) (by omega) (by omega)
theorem put16_eq (l : List Int) (x : Int) (h : l.length ≤ 1000000000) : lychref1_Put16.f l x = some (l ++ [x / 256 % 256, x % 256]) := by
 unfold lychref1_Put16.f
 rw [Option.bind_some, if_pos (by simp; omega)]
theorem put32_eq (l : List Int) (x : Int) (h : l.length ≤ 1000000000) : lychref1_Put32.f l x = some (l ++ [x / 16777216 % 256, x / 65536 % 256, x / 256 % 256, x % 256]) := by
 unfold lychref1_Put32.f
 rw [Option.bind_some, if_pos (by simp; omega)]
theorem ribytes_fin (ha : 0 ≤ a ∧ a ≤ 255) (ht : 0 ≤ t ∧ t ≤ 255) (hp : 0 ≤ pr ∧ pr ≤ 255) (ho : IsB o) (h40 : (o.length : Int) ≤ 40) (hl : l.length ≤ 1000000000) (k : Nat) (hk : 100 ≤ k) {y : List Int} (hy : y = ihd a t pr i fl of_ s d o l 0 ++ o) :
  ((some (y : List Int)).bind fun y387 => ((lychref1_Of.f k y387).bind fun t390 => (if 10 < (y387.length : Int) then (if 11 < (y387.length : Int) then ((some ((y387.set (10 : Int).toNat ((t390 / 256) % 256)).set (11 : Int).toNat ((t390) % 256) : List Int)).bind fun y392 => (if y392.length + l.length < 140737488355328 then (some ((y392 ++ l), (0 : Int))) else (none))) else (none)) else (none)))) = some (ibytes a t pr i fl of_ s d o l, 0) := by
 subst hy
 have hn : (ihd a t pr i fl of_ s d o l 0 ++ o).length = 20 + o.length := by rw [List.length_append, ihd_length]
 have hset : ((ihd a t pr i fl of_ s d o l 0 ++ o).set (10 : Int).toNat (ick a t pr i fl of_ s d o l / 256 % 256)).set (11 : Int).toNat (ick a t pr i fl of_ s d o l % 256) = ihd a t pr i fl of_ s d o l (ick a t pr i fl of_ s d o l) ++ o := rfl
 have hof : lychref1_Of.f k (ihd a t pr i fl of_ s d o l 0 ++ o) = some (ick a t pr i fl of_ s d o l) := rof_eq _ ((ihd_isB ha ht hp h40 0).append ho) (by rw [hn]; omega) k (by rw [hn]; omega) (by omega)
 have hn2 : (ihd a t pr i fl of_ s d o l (ick a t pr i fl of_ s d o l) ++ o).length = 20 + o.length := by rw [List.length_append, ihd_length]
 rw [Option.bind_some, hof, Option.bind_some, if_pos (by rw [hn]; omega), if_pos (by rw [hn]; omega), Option.bind_some, hset, if_pos (by rw [hn2]; omega)]
 rfl
theorem ribytes_eq (ha : 0 ≤ a ∧ a ≤ 255) (ht : 0 ≤ t ∧ t ≤ 255) (hp : 0 ≤ pr ∧ pr ≤ 255) (hf : 0 ≤ fl) (hg : 0 ≤ of_) (ho : IsB o) (hol : o.length ≤ 1000000000) (hl : l.length ≤ 1000000000) (k : Nat) (hk : 200 ≤ k) : lychref1_IpBytes.f k a t pr i fl of_ s d o l = some (iout a t pr i fl of_ s d o l) := by
 obtain ⟨k, rfl⟩ : ∃ j, k = j + 1 := ⟨k - 1, by omega⟩
 have w1 : wrap64 (20 + (o.length : Int)) = 20 + (o.length : Int) := wrap64_id (by omega) (by omega)
 unfold lychref1_IpBytes.f
 by_cases cw : iwrong fl of_ o
 ·have hx : iout a t pr i fl of_ s d o l = ([], 21) := by unfold iout; rw [if_pos cw]
  rw [hx]
  by_cases c1 : (o.length : Int) % 4 = 0
  ·rw [if_pos c1]
   by_cases c2 : (o.length : Int) > 40
   ·rw [if_pos c2, lychref1_IpBytes.j0, if_pos rfl]
   ·rw [if_neg c2]
    by_cases c3 : fl > 7
    ·rw [if_pos c3, lychref1_IpBytes.j0, if_pos rfl]
    ·have c4 : of_ > 8191 := by unfold iwrong at cw; omega
     rw [if_neg c3, decide_eq_true c4, lychref1_IpBytes.j0, if_pos rfl]
  ·rw [if_neg c1, lychref1_IpBytes.j0, if_pos rfl]
 ·have cx : (o.length : Int) % 4 = 0 ∧ (o.length : Int) ≤ 40 ∧ fl ≤ 7 ∧ of_ ≤ 8191 := by unfold iwrong at cw; omega
  obtain ⟨x1, x2, x3, x4⟩ := cx
  have w2 : wrap64 (65535 - (20 + (o.length : Int))) = 65535 - (20 + (o.length : Int)) := wrap64_id (by omega) (by omega)
  rw [if_pos x1, if_neg (by omega), if_neg (by omega), decide_eq_false (by omega), lychref1_IpBytes.j0, if_neg (by decide), w1, w2]
  unfold iout
  rw [if_neg cw]
  by_cases c5 : 20 + (o.length : Int) + (l.length : Int) > 65535
  ·rw [if_pos (by omega), if_pos c5]
  ·rw [if_neg (by omega), if_neg c5]
   have w3 : IntKind.u16.wrap (wrap64 (20 + (o.length : Int) + (l.length : Int))) = 20 + (o.length : Int) + (l.length : Int) := by rw [wrap64_id (by omega) (by omega), u16w (by omega) (by omega)]
   rw [ior x1 x2, ibits ⟨hf, x3⟩ ⟨hg, x4⟩, w3]
   rw [put16_eq _ _ (by simp), Option.bind_some, put16_eq _ _ (by simp), Option.bind_some, put16_eq _ _ (by simp), Option.bind_some, Option.bind_some, if_pos (by simp), put32_eq _ _ (by simp), Option.bind_some, put32_eq _ _ (by simp), Option.bind_some, if_pos (by simp; omega)]
   exact ribytes_fin ha ht hp ho x2 hl k (by omega) (congrArg (· ++ o) rfl)
theorem ibytes_isB (ha : 0 ≤ a ∧ a ≤ 255) (ht : 0 ≤ t ∧ t ≤ 255) (hp : 0 ≤ pr ∧ pr ≤ 255) (ho : IsB o) (hl : IsB l) (h40 : (o.length : Int) ≤ 40) : IsB (ibytes a t pr i fl of_ s d o l) := ((ihd_isB ha ht hp h40 _).append ho).append hl
theorem ibytes_length : (ibytes a t pr i fl of_ s d o l).length = 20 + o.length + l.length := by
 unfold ibytes
 rw [List.length_append, List.length_append, ihd_length]
end
end Go.Proofs.Ytkmimamminddiaa.Pure
/- Plain: a packet of few numbers: its bytes. -/
namespace Go.Proofs.Ytkmimamminddiaa.Pure
set_option linter.unusedVariables false
set_option linter.unusedSimpArgs false
open Go.RowKit Go.Proofs.Ytkmimamminddiaa.PB Go.Proofs.YtkmimamminddiaaW.PrintWords Go.Proofs.YtkmimamminddiaaW.PrintLast
open Go.Proofs.Ytkmimamminddiaa.Spec Go.Proofs.Ytkmimamminddiaa.BytesEq
theorem bits_r32 (op : BinOp) (x y : Int) : 0 ≤ Go.bits op .u32 x y ∧ Go.bits op .u32 x y ≤ 4294967295 := by
 have h : ∀ n : Int, 0 ≤ IntKind.u32.wrap n ∧ IntKind.u32.wrap n ≤ 4294967295 := fun n => by
  show 0 ≤ n % 4294967296 ∧ n % 4294967296 ≤ 4294967295
  omega
 exact h _
theorem bits_r8 (op : BinOp) (x y : Int) : 0 ≤ Go.bits op .u8 x y ∧ Go.bits op .u8 x y ≤ 255 := by
 have h : ∀ n : Int, 0 ≤ IntKind.u8.wrap n ∧ IntKind.u8.wrap n ≤ 255 := fun n => by
  show 0 ≤ n % 256 ∧ n % 256 ≤ 255
  omega
 exact h _
def U32 (x : Int) : Prop := 0 ≤ x ∧ x ≤ 4294967295
def U16 (x : Int) : Prop := 0 ≤ x ∧ x ≤ 65535
def U8 (x : Int) : Prop := 0 ≤ x ∧ x ≤ 255
theorem addr_some (a b c d : Int) : ∃ r, lychseat_Addr.f a b c d = some r ∧ U32 r := ⟨_, rfl, bits_r32 _ _ _⟩
theorem addr_bind (a b c d : Int) : ∃ r, ((lychseat_Addr.f a b c d).bind fun t => some t) = some r ∧ U32 r := addr_some a b c d
theorem inside_some (a : Int) : ∃ r, lychseat_inside.f a = some r ∧ U32 r := by
 unfold lychseat_inside.f
 split
 ·exact addr_bind _ _ _ _
 ·exact addr_bind _ _ _ _
theorem outj1 (k : Nat) (x y : Int) (b : Bool) : ∃ r, lychseat_outside.j1 (k + 1) x y b = some r ∧ U32 r := by
 rw [lychseat_outside.j1]
 split
 ·exact addr_bind _ _ _ _
 ·split
  ·exact addr_bind _ _ _ _
  ·exact addr_bind _ _ _ _
theorem outj0 (k : Nat) (x y : Int) (b : Bool) : ∃ r, lychseat_outside.j0 (k + 2) x y b = some r ∧ U32 r := by
 rw [lychseat_outside.j0]
 split
 ·exact addr_bind _ _ _ _
 ·split
  ·exact addr_bind _ _ _ _
  ·split
   ·exact addr_bind _ _ _ _
   ·split
    ·exact addr_bind _ _ _ _
    ·split
     ·exact outj1 _ _ _ _
     ·exact outj1 _ _ _ _
theorem outside_some (K : Nat) (hK : 2 ≤ K) (a b : Int) : ∃ r, lychseat_outside.f K a b = some r ∧ U32 r := by
 obtain ⟨k, rfl⟩ : ∃ j, K = j + 2 := ⟨K - 2, by omega⟩
 unfold lychseat_outside.f
 split
 ·exact outj0 _ _ _ _
 ·exact outj0 _ _ _ _
theorem port_some (a : Int) : ∃ r, lychseat_port.f a = some r ∧ U16 r := by
 have h : ∀ n : Int, U16 (IntKind.u16.wrap n) := fun n => by
  show 0 ≤ n % 65536 ∧ n % 65536 ≤ 65535
  omega
 unfold lychseat_port.f
 split
 ·exact ⟨_, rfl, h _⟩
 ·split
  ·exact ⟨_, rfl, by unfold U16; omega⟩
  ·exact ⟨_, rfl, h _⟩
theorem proto_some (a : Int) (ha : 0 ≤ a) : lychseat_proto.f a = some (rd [17, 6, 1, 17] (a.tmod 4)) ∧ (rd [17, 6, 1, 17] (a.tmod 4) = 17 ∨ rd [17, 6, 1, 17] (a.tmod 4) = 6 ∨ rd [17, 6, 1, 17] (a.tmod 4) = 1) := by
 have h1 : a.tmod 4 < 4 := Int.tmod_lt_of_pos _ (by decide)
 have h0 : 0 ≤ a.tmod 4 := Int.tmod_nonneg _ ha
 constructor
 ·unfold lychseat_proto.f
  rw [Option.bind_some, if_pos h0, if_pos (show a.tmod 4 < ((([17, 6, 1, 17] : List Int)).length : Int) from h1)]
 ·generalize a.tmod 4 = i at h1 h0 ⊢
  obtain rfl | rfl | rfl | rfl : i = 0 ∨ i = 1 ∨ i = 2 ∨ i = 3 := by omega
  ·exact .inl rfl
  ·exact .inr (.inl rfl)
  ·exact .inr (.inr rfl)
  ·exact .inl rfl
def dataS (n : Int) : List Int := abc16.take (n.tmod 16).toNat
theorem abc_isB : IsB abc16 := by
 intro x hx
 simp only [abc16, List.mem_cons, List.not_mem_nil, or_false] at hx
 omega
theorem dataS_isB (n : Int) : IsB (dataS n) := abc_isB.take _
theorem dataS_len (n : Int) : (dataS n).length ≤ 16 := by
 unfold dataS
 rw [List.length_take]
 have : abc16.length = 16 := rfl
 omega
def optS (n : Int) : List Int := if Go.bits .and .u8 n 32 = 0 then [] else [1, 1, 1, 0]
theorem optS_is (n : Int) : IsB (optS n) ∧ ((optS n).length : Int) % 4 = 0 ∧ ((optS n).length : Int) ≤ 4 := by
 unfold optS
 split
 ·exact ⟨.nil, rfl, by decide⟩
 ·refine ⟨fun x hx => ?_, rfl, by decide⟩
  simp only [List.mem_cons, List.not_mem_nil, or_false] at hx
  omega
def typS (fl : Int) : Int := if Go.bits .and .u8 fl 1 = 0 then 8 else 0
def resS (fr n : Int) : Int := Go.bits .or .u32 (fr % 4294967296 * 65536 % 4294967296) (n % 4294967296)
def bodyS (pr a b fr tp fl n : Int) : List Int :=
 if pr = 17 then ubytes fr tp (if Go.bits .and .u8 fl 64 = 0 then usum (usumS a b fr tp (dataS n)) else 0) (dataS n)
 else if pr = 6 then tbytes fr tp (n % 4294967296) 0 (Go.bits .and .u8 fl 23) 9 (65535 - norm (tT a b (tbytes fr tp (n % 4294967296) 0 (Go.bits .and .u8 fl 23) 9 0 0 (optS n) (dataS n)))) 0 (optS n) (dataS n)
 else PureI.ibytes (typS fl) 0 (ck (PureI.ibytes (typS fl) 0 0 (resS fr n) (dataS n))) (resS fr n) (dataS n)
theorem typS_r (fl : Int) : U8 (typS fl) := by
 unfold typS U8
 split <;> omega
theorem body_eq (K : Nat) (hK : 4000 ≤ K) {pr a b fr tp fl n : Int} (ha : U32 a) (hb : U32 b) (hf : U16 fr) (ht : U16 tp) : seat_body.f K pr a b fr tp fl n = some (bodyS pr a b fr tp fl n) := by
 have hd := dataS_isB n
 have hl := dataS_len n
 have ho := optS_is n
 have hfl := bits_r8 .and fl 23
 unfold seat_body.f bodyS
 by_cases c17 : pr = 17
 ·rw [if_pos c17, if_pos c17]
  by_cases c64 : Go.bits .and .u8 fl 64 = 0
  ·rw [if_pos c64, if_pos c64]
   have e1 := rusum_eq (c := 0) ha hb hf ht hd (by omega) K hK
   unfold dataS at e1 hl ⊢
   rw [e1, Option.bind_some, rubytes_eq _ _ _ (by omega), if_neg (by omega)]
   rfl
  ·rw [if_neg c64, if_neg c64]
   unfold dataS at hl ⊢
   rw [rubytes_eq _ _ _ (by omega), if_neg (by omega)]
   rfl
 ·rw [if_neg c17, if_neg c17]
  by_cases c6 : pr = 6
  ·rw [if_pos c6, if_pos c6]
   have h2 : ∀ o : List Int, IsB o → ((o.length : Int) % 4 = 0) → ((o.length : Int) ≤ 4) → ((lychref1_TcpSum.f K a b fr tp (n % 4294967296) 0 (Go.bits .and .u8 fl 23) 9 0 0 o (dataS n)).bind fun s => (lychref1_TcpBytes.f K fr tp (n % 4294967296) 0 (Go.bits .and .u8 fl 23) 9 s 0 o (dataS n)).bind fun b => some b.1) = some (tbytes fr tp (n % 4294967296) 0 (Go.bits .and .u8 fl 23) 9 (65535 - norm (tT a b (tbytes fr tp (n % 4294967296) 0 (Go.bits .and .u8 fl 23) 9 0 0 o (dataS n)))) 0 o (dataS n)) := fun o h1 h4 h40 => by
    rw [rtsum_eq ha hb hfl h1 h4 (by omega) hd (by omega) K hK, Option.bind_some, rtbytes_eq (by omega) (by omega) K (by omega), tout_ok h4 (by omega) (by omega)]
    rfl
   unfold optS at ho ⊢
   by_cases c32 : Go.bits .and .u8 n 32 = 0
   ·rw [if_pos c32] at ho ⊢
    rw [if_pos c32]
    exact h2 [] ho.1 ho.2.1 ho.2.2
   ·rw [if_neg c32] at ho ⊢
    rw [if_neg c32]
    exact h2 _ ho.1 ho.2.1 ho.2.2
  ·rw [if_neg c6, if_neg c6]
   have h2 : ∀ t : Int, U8 t → ((lychref1_IcmpSum.f K t 0 0 (resS fr n) (dataS n)).bind fun s => (lychref1_IcmpBytes.f t 0 s (resS fr n) (dataS n)).bind fun b => some b.1) = some (PureI.ibytes t 0 (ck (PureI.ibytes t 0 0 (resS fr n) (dataS n))) (resS fr n) (dataS n)) := fun t h1 => by
    rw [PureI.risumf_eq t 0 0 _ _ K hK (by omega) (PureI.ibytes_isB h1 (by omega) hd), Option.bind_some, PureI.ribytes_eq _ _ _ _ (by omega), if_neg (by omega)]
    rfl
   unfold typS
   by_cases c1 : Go.bits .and .u8 fl 1 = 0
   ·rw [if_pos c1, if_pos c1]
    exact h2 8 (by unfold U8; omega)
   ·rw [if_neg c1, if_neg c1]
    exact h2 0 (by unfold U8; omega)
theorem bodyS_is (pr a b fr tp fl n : Int) : IsB (bodyS pr a b fr tp fl n) ∧ (bodyS pr a b fr tp fl n).length ≤ 50 := by
 have hd := dataS_isB n
 have hl := dataS_len n
 have ho := optS_is n
 unfold bodyS
 split
 ·exact ⟨ubytes_isB hd, by rw [ubytes_length]; omega⟩
 ·split
  ·exact ⟨tbytes_isB (bits_r8 _ _ _) ho.1 hd, by rw [tbytes_length]; omega⟩
  ·exact ⟨PureI.ibytes_isB (typS_r fl) (by omega) hd, by rw [PureI.ibytes_length]; omega⟩
def errT (p8 : Int) : Int := rd [3, 11, 12] (p8.tmod 3)
theorem errT_is (p8 : Int) : errT p8 = 3 ∨ errT p8 = 11 ∨ errT p8 = 12 ∨ errT p8 = 0 := by
 unfold errT rd
 generalize (p8.tmod 3).toNat = i
 match i with
 | 0 => exact .inl rfl
 | 1 => exact .inr (.inl rfl)
 | 2 => exact .inr (.inr (.inl rfl))
 | n + 3 => exact .inr (.inr (.inr rfl))
def errIn (pr s d fr tp p5 p8 : Int) : List Int := ibytes 0 3 pr 0 0 0 d s [] (bodyS pr d s tp fr p5 p8)
def errS (pr s d fr tp p5 p8 : Int) : List Int := PureI.ibytes (errT p8) 0 (ck (PureI.ibytes (errT p8) 0 0 0 (errIn pr s d fr tp p5 p8))) 0 (errIn pr s d fr tp p5 p8)
theorem ip_ok {a t pr i fl of_ s d : Int} {o l : List Int} (hf : fl ≤ 7) (hg : of_ ≤ 8191) (h4 : (o.length : Int) % 4 = 0) (h40 : (o.length : Int) ≤ 40) (hl : (l.length : Int) ≤ 3000) : iout a t pr i fl of_ s d o l = (ibytes a t pr i fl of_ s d o l, 0) := by
 unfold iout
 rw [if_neg (by unfold iwrong; omega), if_neg (by omega)]
theorem errIn_is {pr s d fr tp p5 p8 : Int} (hp : U8 pr) : IsB (errIn pr s d fr tp p5 p8) ∧ (errIn pr s d fr tp p5 p8).length ≤ 70 := by
 obtain ⟨h1, h2⟩ := bodyS_is pr d s tp fr p5 p8
 unfold errIn
 refine ⟨ibytes_isB (by omega) (by omega) hp .nil h1 (by decide), ?_⟩
 rw [ibytes_length]
 have : ([] : List Int).length = 0 := rfl
 omega
theorem errT_r (p8 : Int) : U8 (errT p8) := by
 have := errT_is p8
 unfold U8
 omega
theorem errS_is {pr s d fr tp p5 p8 : Int} (hp : U8 pr) : IsB (errS pr s d fr tp p5 p8) ∧ (errS pr s d fr tp p5 p8).length ≤ 80 := by
 obtain ⟨h1, h2⟩ := errIn_is (s := s) (d := d) (fr := fr) (tp := tp) (p5 := p5) (p8 := p8) hp
 unfold errS
 exact ⟨PureI.ibytes_isB (errT_r p8) (by omega) h1, by rw [PureI.ibytes_length]; omega⟩
theorem er_eq (K : Nat) (hK : 4000 ≤ K) {pr s d fr tp p5 p7 p8 : Int} {x : List Int} (hp : U8 pr) (hs : U32 s) (hd : U32 d) (hf : U16 fr) (ht : U16 tp) : seat_packet.er K pr s d fr tp p5 p7 p8 x = some (if p7.tmod 5 = 4 then (1, errS pr s d fr tp p5 p8) else (pr, x)) := by
 unfold seat_packet.er
 by_cases c : p7.tmod 5 = 4
 ·rw [if_pos c, if_pos c]
  obtain ⟨b1, b2⟩ := bodyS_is pr d s tp fr p5 p8
  obtain ⟨e1, e2⟩ := errIn_is (s := s) (d := d) (fr := fr) (tp := tp) (p5 := p5) (p8 := p8) hp
  rw [body_eq K hK hd hs ht hf, Option.bind_some, ribytes_eq (by omega) (by omega) hp (by omega) (by omega) .nil (by decide) (by omega) K (by omega), ip_ok (by omega) (by omega) rfl (by decide) (by omega), Option.bind_some]
  dsimp only
  have e3 := PureI.risumf_eq (rd [3, 11, 12] (p8.tmod 3)) 0 0 0 (errIn pr s d fr tp p5 p8) K hK (by omega) (PureI.ibytes_isB (errT_r p8) (by omega) e1)
  unfold errIn at e3 e2
  rw [e3, Option.bind_some, PureI.ribytes_eq _ _ _ _ (by omega), if_neg (by omega), Option.bind_some]
  rfl
 ·rw [if_neg c, if_neg c]
theorem sw_is (p6 pr : Int) (hp : U8 pr) : ∃ t pr2 fl of_ o, seat_packet.sw p6 pr = (t, pr2, fl, of_, o) ∧ U8 t ∧ U8 pr2 ∧ (0 ≤ fl ∧ fl ≤ 2) ∧ (0 ≤ of_ ∧ of_ ≤ 5) ∧ IsB o ∧ (o.length : Int) % 4 = 0 ∧ (o.length : Int) ≤ 4 := by
 have h64 : U8 64 := by unfold U8; omega
 unfold seat_packet.sw
 split
 ·exact ⟨_, _, _, _, _, rfl, by unfold U8; omega, hp, by omega, by omega, .nil, rfl, by decide⟩
 ·split
  ·exact ⟨_, _, _, _, _, rfl, h64, hp, by omega, by omega, .nil, rfl, by decide⟩
  ·split
   ·exact ⟨_, _, _, _, _, rfl, h64, hp, by omega, by omega, .nil, rfl, by decide⟩
   ·split
    ·exact ⟨_, _, _, _, _, rfl, h64, by unfold U8; omega, by omega, by omega, .nil, rfl, by decide⟩
    ·split
     ·refine ⟨_, _, _, _, _, rfl, h64, hp, by omega, by omega, fun x hx => ?_, rfl, by decide⟩
      simp only [List.mem_cons, List.not_mem_nil, or_false] at hx
      omega
     ·exact ⟨_, _, _, _, _, rfl, h64, hp, by omega, by omega, .nil, rfl, by decide⟩
theorem sp_is {p8 p9 : Int} {b : List Int} (h : IsB b) : IsB (seat_packet.sp p8 p9 b) ∧ (seat_packet.sp p8 p9 b).length = b.length := by
 unfold seat_packet.sp
 split
 ·split
  ·exact ⟨h.set _ (bits_r8 _ _ _), by rw [List.length_set]⟩
  ·exact ⟨h, rfl⟩
 ·exact ⟨h, rfl⟩
theorem packet_told (K : Nat) (hK : 4000 ≤ K) (p0 p1 p2 p3 p4 p5 p6 p7 p8 p9 side n : Int) (h0 : 0 ≤ p0) : ∃ s d fr tp, U32 s ∧ U32 d ∧ U16 fr ∧ U16 tp ∧ lychseat_port.f p3 = some fr ∧ lychseat_port.f p4 = some tp ∧
  seat_packet.f K p0 p1 p2 p3 p4 p5 p6 p7 p8 p9 side n = some (seat_packet.sp p8 p9 (ibytes 0 (seat_packet.sw p6 (if p7.tmod 5 = 4 then 1 else rd [17, 6, 1, 17] (p0.tmod 4))).1 (seat_packet.sw p6 (if p7.tmod 5 = 4 then 1 else rd [17, 6, 1, 17] (p0.tmod 4))).2.1 (IntKind.u16.wrap p8) (seat_packet.sw p6 (if p7.tmod 5 = 4 then 1 else rd [17, 6, 1, 17] (p0.tmod 4))).2.2.1 (seat_packet.sw p6 (if p7.tmod 5 = 4 then 1 else rd [17, 6, 1, 17] (p0.tmod 4))).2.2.2.1 s d (seat_packet.sw p6 (if p7.tmod 5 = 4 then 1 else rd [17, 6, 1, 17] (p0.tmod 4))).2.2.2.2 (if p7.tmod 5 = 4 then errS (rd [17, 6, 1, 17] (p0.tmod 4)) s d fr tp p5 p8 else bodyS (rd [17, 6, 1, 17] (p0.tmod 4)) s d fr tp p5 p8))) := by
 obtain ⟨s0, e1, hs0⟩ := inside_some p1
 obtain ⟨d0, e2, hd0⟩ := outside_some K (by omega) p2 (n % 256)
 obtain ⟨s, d, e3, hs, hd⟩ : ∃ s d, seat_packet.sd K p1 p2 side n s0 d0 = some (s, d) ∧ U32 s ∧ U32 d := by
  unfold seat_packet.sd
  split
  ·exact ⟨_, _, rfl, hs0, hd0⟩
  ·obtain ⟨s1, f1, hs1⟩ := outside_some K (by omega) p1 (n % 256)
   obtain ⟨d1, f2, hd1⟩ := outside_some K (by omega) ((5 + p2.tmod 3) % 256) (n % 256)
   rw [f1, Option.bind_some, f2, Option.bind_some]
   exact ⟨_, _, rfl, hs1, hd1⟩
 obtain ⟨e4, hpr⟩ := proto_some p0 h0
 obtain ⟨fr, e5, hfr⟩ := port_some p3
 obtain ⟨tp, e6, htp⟩ := port_some p4
 refine ⟨s, d, fr, tp, hs, hd, hfr, htp, e5, e6, ?_⟩
 unfold seat_packet.f
 rw [e1, Option.bind_some, e2, Option.bind_some, e3, Option.bind_some, e4, Option.bind_some, e5, Option.bind_some, e6, Option.bind_some]
 generalize rd [17, 6, 1, 17] (p0.tmod 4) = pr at hpr ⊢
 have hp8 : U8 pr := by unfold U8; omega
 dsimp only
 rw [body_eq K hK hs hd hfr htp, Option.bind_some, er_eq K hK hp8 hs hd hfr htp, Option.bind_some]
 have b1 := bodyS_is pr s d fr tp p5 p8
 have b2 := errS_is (s := s) (d := d) (fr := fr) (tp := tp) (p5 := p5) (p8 := p8) hp8
 by_cases c : p7.tmod 5 = 4
 ·rw [if_pos c, if_pos c, if_pos c]
  obtain ⟨t, pr2, fl, of_, o, es, ht, hp2, hfl, hof, ho, h4, h40⟩ := sw_is p6 1 (by unfold U8; omega)
  dsimp only
  rw [es, ribytes_eq (by omega) ht hp2 hfl.1 hof.1 ho (by omega) (by omega) K (by omega), ip_ok (by omega) (by omega) h4 (by omega) (by omega), Option.bind_some]
 ·rw [if_neg c, if_neg c, if_neg c]
  obtain ⟨t, pr2, fl, of_, o, es, ht, hp2, hfl, hof, ho, h4, h40⟩ := sw_is p6 pr hp8
  dsimp only
  rw [es, ribytes_eq (by omega) ht hp2 hfl.1 hof.1 ho (by omega) (by omega) K (by omega), ip_ok (by omega) (by omega) h4 (by omega) (by omega), Option.bind_some]
theorem packet_some (K : Nat) (hK : 4000 ≤ K) (p0 p1 p2 p3 p4 p5 p6 p7 p8 p9 side n : Int) (h0 : 0 ≤ p0) : ∃ r, seat_packet.f K p0 p1 p2 p3 p4 p5 p6 p7 p8 p9 side n = some r ∧ IsB r ∧ r.length ≤ 110 := by
 obtain ⟨s, d, fr, tp, hs, hd, hfr, htp, _, _, e⟩ := packet_told K hK p0 p1 p2 p3 p4 p5 p6 p7 p8 p9 side n h0
 refine ⟨_, e, ?_⟩
 have hpr := (proto_some p0 h0).2
 generalize rd [17, 6, 1, 17] (p0.tmod 4) = pr at hpr ⊢
 have hp8 : U8 pr := by unfold U8; omega
 have hq : U8 (if p7.tmod 5 = 4 then 1 else pr) := by
  split
  ·unfold U8; omega
  ·exact hp8
 generalize (if p7.tmod 5 = 4 then 1 else pr) = q at hq ⊢
 obtain ⟨t, pr2, fl, of_, o, es, ht, hp2, hfl, hof, ho, h4, h40⟩ := sw_is p6 q hq
 rw [es]
 have hx : IsB (if p7.tmod 5 = 4 then errS pr s d fr tp p5 p8 else bodyS pr s d fr tp p5 p8) ∧ (if p7.tmod 5 = 4 then errS pr s d fr tp p5 p8 else bodyS pr s d fr tp p5 p8).length ≤ 80 := by
  split
  ·exact errS_is hp8
  ·obtain ⟨b1, b2⟩ := bodyS_is pr s d fr tp p5 p8
   exact ⟨b1, by omega⟩
 generalize (if p7.tmod 5 = 4 then errS pr s d fr tp p5 p8 else bodyS pr s d fr tp p5 p8) = x at hx ⊢
 have hb : IsB (ibytes 0 t pr2 (IntKind.u16.wrap p8) fl of_ s d o x) := ibytes_isB (by omega) ht hp2 ho hx.1 (by omega)
 obtain ⟨g1, g2⟩ := sp_is (p8 := p8) (p9 := p9) hb
 refine ⟨g1, ?_⟩
 rw [g2, ibytes_length]
 omega
end Go.Proofs.Ytkmimamminddiaa.Pure
namespace Go.Proofs.Ytkmimamminddiaa.PB
open Go.RowKit Go.Proofs.YtkmimamminddiaaW.PrintWords Go.Proofs.YtkmimamminddiaaW.PrintLast Go.Proofs.YtkmimamminddiaaW.PrintMore
attribute [local go_sem] max2_int min2_int max_two min_two max_three min_three max_four min_four   -- for this text's walks alone
set_option linter.unusedVariables false
set_option linter.unusedSimpArgs false
end Go.Proofs.Ytkmimamminddiaa.PB
/- EthReads, EthOnce, EthBounds, EthBack: the plain statements: for all frames the printed laws return true. -/
namespace Go.Proofs.Ytkmimamminddiaa.Pure
set_option linter.unusedVariables false
set_option linter.unusedSimpArgs false
open Go.RowKit Go.Proofs.Ytkmimamminddiaa.PB Go.Proofs.YtkmimamminddiaaW.PrintWords Go.Proofs.YtkmimamminddiaaW.PrintLast
open Go.Proofs.Ytkmimamminddiaa.Spec Go.Proofs.Ytkmimamminddiaa.BytesEq
theorem w12 : wrap64 (1 + 1) = 2 := wrap64_id (by omega) (by omega)
theorem w34 : wrap64 (3 + 1) = 4 := wrap64_id (by omega) (by omega)
section
end
end Go.Proofs.Ytkmimamminddiaa.Pure
namespace Go.Proofs.Ytkmimamminddiaa.PB
open Go.RowKit Go.Proofs.YtkmimamminddiaaW.PrintWords Go.Proofs.YtkmimamminddiaaW.PrintLast Go.Proofs.YtkmimamminddiaaW.PrintMore
attribute [local go_sem] max2_int min2_int max_two min_two max_three min_three max_four min_four   -- for this text's walks alone
set_option linter.unusedVariables false
set_option linter.unusedSimpArgs false
end Go.Proofs.Ytkmimamminddiaa.PB
/- VxlanReads, VxlanBits, VxlanBack, VxlanBounds, the plain statements: for all bytes, networks and lengths the printed laws return true. -/
namespace Go.Proofs.Ytkmimamminddiaa.Pure
set_option linter.unusedVariables false
set_option linter.unusedSimpArgs false
open Go.RowKit Go.Proofs.Ytkmimamminddiaa.PB Go.Proofs.YtkmimamminddiaaW.PrintWords Go.Proofs.YtkmimamminddiaaW.PrintLast
open Go.Proofs.Ytkmimamminddiaa.Spec Go.Proofs.Ytkmimamminddiaa.BytesEq
end Go.Proofs.Ytkmimamminddiaa.Pure
/- Plain: what is read out of bytes lies in its bounds. -/
namespace Go.Proofs.Ytkmimamminddiaa.Pure
set_option linter.unusedVariables false
set_option linter.unusedSimpArgs false
open Go.RowKit Go.Proofs.Ytkmimamminddiaa.PB Go.Proofs.YtkmimamminddiaaW.PrintWords Go.Proofs.YtkmimamminddiaaW.PrintLast
open Go.Proofs.Ytkmimamminddiaa.Spec Go.Proofs.Ytkmimamminddiaa.BytesEq
theorem u8_0 : U8 0 := by unfold U8; omega
theorem u16_0 : U16 0 := by unfold U16; omega
theorem u32_0 : U32 0 := by unfold U32; omega
theorem iseg_is {l : List Int} (h : IsB l) : ∃ a t pr i fl of_ s d o b e, iseg l = (a, t, pr, i, fl, of_, s, d, o, b, e) ∧ U8 a ∧ U8 t ∧ U8 pr ∧ U16 i ∧ (0 ≤ fl ∧ fl ≤ 7) ∧ (0 ≤ of_ ∧ of_ ≤ 8191) ∧ U32 s ∧ U32 d ∧ IsB o ∧ (o.length : Int) % 4 = 0 ∧ (o.length : Int) ≤ 40 ∧ IsB b ∧ b.length ≤ l.length := by
 have hn : ∀ e : Int, ∃ a t pr i fl of_ s d o b e', ((0 : Int), (0 : Int), (0 : Int), (0 : Int), (0 : Int), (0 : Int), (0 : Int), (0 : Int), ([] : List Int), ([] : List Int), e) = (a, t, pr, i, fl, of_, s, d, o, b, e') ∧ U8 a ∧ U8 t ∧ U8 pr ∧ U16 i ∧ (0 ≤ fl ∧ fl ≤ 7) ∧ (0 ≤ of_ ∧ of_ ≤ 8191) ∧ U32 s ∧ U32 d ∧ IsB o ∧ (o.length : Int) % 4 = 0 ∧ (o.length : Int) ≤ 40 ∧ IsB b ∧ b.length ≤ l.length := fun e =>
  ⟨0, 0, 0, 0, 0, 0, 0, 0, [], [], e, rfl, u8_0, u8_0, u8_0, u16_0, by omega, by omega, u32_0, u32_0, .nil, rfl, by decide, .nil, Nat.zero_le _⟩
 have hh := ihead_range l
 have h4 : ihead l % 4 = 0 := by unfold ihead; omega
 have h6 := g16_range h 6
 unfold iseg
 by_cases c1 : l.length < 20
 ·rw [if_pos c1]; exact hn _
 ·rw [if_neg c1]
  by_cases c2 : iodd l
  ·rw [if_pos c2]; exact hn _
  ·rw [if_neg c2]
   by_cases c3 : (l.length : Int) < g16 l 2
   ·rw [if_pos c3]; exact hn _
   ·rw [if_neg c3]
    by_cases c4 : isumof l ≠ 65535
    ·rw [if_pos c4]; exact hn _
    ·rw [if_neg c4]
     have c5 : l.getD 0 0 / 16 = 4 ∧ ihead l ≥ 20 ∧ g16 l 2 ≥ ihead l := by
      unfold iodd at c2
      exact Decidable.not_not.1 c2
     have ho : (((l.take (ihead l).toNat).drop 20).length : Int) = ihead l - 20 := by
      rw [List.length_drop, List.length_take]
      omega
     refine ⟨_, _, _, _, _, _, _, _, _, _, _, rfl, h.getD _, h.getD _, h.getD _, g16_range h 4, ⟨by omega, by omega⟩, ⟨by omega, by omega⟩, g32_range h 12, g32_range h 16, (h.take _).drop _, by omega, by omega, (h.take _).drop _, ?_⟩
     rw [List.length_drop, List.length_take]
     omega
end Go.Proofs.Ytkmimamminddiaa.Pure
namespace Go.Proofs.Ytkmimamminddiaa.PB
open Go.RowKit Go.Proofs.YtkmimamminddiaaW.PrintWords Go.Proofs.YtkmimamminddiaaW.PrintLast Go.Proofs.YtkmimamminddiaaW.PrintMore
attribute [local go_sem] max2_int min2_int max_two min_two max_three min_three max_four min_four   -- for this text's walks alone
set_option linter.unusedVariables false
set_option linter.unusedSimpArgs false
end Go.Proofs.Ytkmimamminddiaa.PB
/- Plain: the packet that stands within an error: its points, told by the program and by the reference. -/
namespace Go.Proofs.Ytkmimamminddiaa.Pure
set_option linter.unusedVariables false
set_option linter.unusedSimpArgs false
open Go.RowKit Go.Proofs.Ytkmimamminddiaa.PB Go.Proofs.YtkmimamminddiaaW.PrintWords Go.Proofs.YtkmimamminddiaaW.PrintLast
open Go.Proofs.Ytkmimamminddiaa.Spec Go.Proofs.Ytkmimamminddiaa.BytesEq
theorem two_at {b : List Int} (h : IsB b) (i : Nat) (hi : i + 2 ≤ b.length) : rewrite_two.f (b.drop i) = some (g16 b i) := by
 have hl : (b.drop i).length = b.length - i := List.length_drop
 unfold rewrite_two.f
 rw [if_pos (by omega), if_pos (by omega)]
 have e0 : rd (b.drop i) 0 = b.getD i 0 := by
  rw [rd_nat _ 0 0 rfl]
  simp [List.getD_eq_getElem?_getD]
 have e1 : rd (b.drop i) 1 = b.getD (i + 1) 0 := by
  rw [rd_nat _ 1 1 rfl]
  simp [List.getD_eq_getElem?_getD]
 rw [e0, e1, word16 (h.getD i) (h.getD (i + 1))]
 rfl
end Go.Proofs.Ytkmimamminddiaa.Pure
/- lychref8.Hop. -/
namespace Go.Proofs.Ytkmimamminddiaa.PB
open Go.RowKit Go.Proofs.YtkmimamminddiaaW.PrintWords Go.Proofs.YtkmimamminddiaaW.PrintLast Go.Proofs.YtkmimamminddiaaW.PrintMore
set_option linter.unusedVariables false
set_option linter.unusedSimpArgs false
def rHop.f (k : Nat) (l : List Int) : Option (List Int × Int) :=
 (lychref1_Ip.f k l).bind fun ⟨a, t, pr, i, fl, of_, s, d, o, b, e⟩ => if e = 0 then
  if t = 0 then some ([], 21) else (lychref1_IpBytes.f k a ((t - 1) % 256) pr i fl of_ s d o b).bind fun x => some (x.1, 0)
 else some ([], e)
theorem rHop.calls (k : Nat) (A : Option Addr) (c : Nat) (l : List Int) (rb : List Int) (re : Int) (w : World) (hC : Kd.C (Kd.int .u8) w A l.length l) (hL : l.length ≤ c) (h : rHop.f k l = some (rb, re)) :
  Calls Try.prog 35 #[.slice A l.length c] w fun e w' => ∃ vr : Value, e = .returned (.tuple #[vr, .int .i64 re]) ∧ Kd.R (Kd.int .u8) 5 w' w.heap.size (fun _ => True) vr rb ∧ Below w.heap.size w w' := by
 have hu73 := Try.underlying73
 unfold rHop.f at h
 obtain ⟨⟨a, t, pr, i, fl, of_, s, d, o, b, e_⟩, hp, h⟩ := rw_bind h
 have HB := Aside0.mk (Below.refl w.heap.size w)
 have HC := Aside0.mk hC
 have HL := Aside0.mk hL
 have HP := Aside0.mk hp
 have HF := Aside0.mk h
 have HI73 : Aside0 ((Try.prog.info? 73).map (·.size) = some 10) := ⟨by kernel_rfl⟩
 clear hC hL h hp
 go_enter Try.func35, Try.ntmps35
 go_wp2_with fail
 refine (lychref1_Ip.calls k A c l a t pr i fl of_ s d o b e_ _ (Kd.C_below HC.out HB.out) HL.out HP.out).mono ?_
 rintro ev w1 ⟨vo, vb, rfl, ho, ho2, hb⟩
 have HRo := Aside0.mk (Kd.R_mono (Kd.R_lower ho (below_size HB.out)) (ok' := fun _ => True) (fun _ _ => trivial))
 obtain ⟨Ao, co, rfl, _, _⟩ := Kd.R_reads ho
 clear ho
 have HRb := Aside0.mk (Kd.R_mono (Kd.R_lower ho2 (below_size HB.out)) (ok' := fun _ => True) (fun _ _ => trivial))
 obtain ⟨Ab, cb, rfl, _, _⟩ := Kd.R_reads ho2
 clear ho2
 have hb_ := hb
 have n_HB := Aside0.mk (below_step HB.out hb_)
 clear HB hb_
 have HB := n_HB
 clear n_HB
 clear hb HP
 (try dsimp only)
 go_upto_region 2 with ((first | (refine rw_skip rfl rfl (rw_new rfl rfl rfl HI73.out rfl (by simp [Value.oneCell'])) ?_)))
 obtain ⟨gp, hgp⟩ : ∃ x_, x_ = w1.heap.size := ⟨_, rfl⟩
 have HXp : Aside0 ((w1.alloc (.cells #[.int .u8 a, .int .u8 t, .int .u8 pr, .int .u16 i, .int .u8 fl, .int .u16 of_, .int .u32 s, .int .u32 d, .slice Ao o.length co, .slice Ab b.length cb] 73)).heap[gp]? = some (.cells #[.int .u8 a, .int .u8 t, .int .u8 pr, .int .u16 i, .int .u8 fl, .int .u16 of_, .int .u32 s, .int .u32 d, .slice Ao o.length co, .slice Ab b.length cb] 73 (0, 0))) := ⟨by rw [hgp]; exact rw_blknew _ _⟩
 have GHXp := Aside0.mk (show w.heap.size ≤ gp by rw [hgp]; exact below_size HB.out)
 rw [← hgp]
 clear hgp
 have hb_ := below_alloc (Below.refl w1.heap.size w1) (.cells #[.int .u8 a, .int .u8 t, .int .u8 pr, .int .u16 i, .int .u8 fl, .int .u16 of_, .int .u32 s, .int .u32 d, .slice Ao o.length co, .slice Ab b.length cb] 73)
 have n_HB := Aside0.mk (below_step HB.out hb_)
 have n_HRo := Aside0.mk (Kd.R_below HRo.out hb_)
 have n_HRb := Aside0.mk (Kd.R_below HRb.out hb_)
 clear HB HRo HRb hb_
 have HB := n_HB
 have HRo := n_HRo
 have HRb := n_HRb
 clear n_HB n_HRo n_HRb
 generalize (w1.alloc (.cells #[.int .u8 a, .int .u8 t, .int .u8 pr, .int .u16 i, .int .u8 fl, .int .u16 of_, .int .u32 s, .int .u32 d, .slice Ao o.length co, .slice Ab b.length cb] 73)) = w2 at HXp HB HRo HRb ⊢
 have gp_1 : w2.cell? ⟨gp, 1, none⟩ = some (.int .u8 t) := (blk_cell HXp.out 1).trans rfl
 have H := HF.out
 clear HF
 (try dsimp only at H)
 by_cases ce : e_ = 0
 ·have ce1 : (e_ == 0) = true := beq_iff_eq.2 ce
  have ce2 : (e_ != 0) = false := by rw [bne, ce1]; rfl
  rw [if_pos ce] at H
  clear ce
  by_cases ct : t = 0
  ·have ct1 : (t == 0) = true := beq_iff_eq.2 ct
   have ct2 : (t != 0) = false := by rw [bne, ct1]; rfl
   rw [if_pos ct] at H
   clear ct
   simp only [Option.some.injEq, Prod.mk.injEq] at H
   obtain ⟨rfl, rfl⟩ := H
   (try dsimp only)
   go_wp2
   (try simp only [Exit.inBlock, Exit.then])
   go_ret2
   exact ⟨_, rfl, Kd.R_nil _ _ _ _ _, HB.out⟩
  ·have ct1 : (t == 0) = false := beq_eq_false_iff_ne.2 ct
   have ct2 : (t != 0) = true := bne_iff_ne.2 ct
   rw [if_neg ct] at H
   clear ct
   obtain ⟨⟨x, xe⟩, hx, H⟩ := rw_bind H
   simp only [Option.some.injEq, Prod.mk.injEq] at H
   obtain ⟨rfl, rfl⟩ := H
   have HX := Aside0.mk hx
   clear hx
   (try dsimp only)
   go_upto_region 7 with (((refine rw_set rfl rfl (i := 1) (v := .int .u8 ((t - 1) % 256)) (cs' := #[.int .u8 a, .int .u8 ((t - 1) % 256), .int .u8 pr, .int .u16 i, .int .u8 fl, .int .u16 of_, .int .u32 s, .int .u32 d, .slice Ao o.length co, .slice Ab b.length cb]) HXp.out rfl ?hr_ ?_); (case hr_ => (have m_ := (blk_cell HXp.out 1).trans (rfl : _ = some (.int .u8 t : Value))); (have mf_ := blk_frozen HXp.out 1); first | (go_simp; done) | (go_simp; rfl)); intro w3 hs_ off_; have n_HB := Aside0.mk (Off.below off_ HB.out GHXp.out); have n_HRo := Aside0.mk (Off.R off_ HRo.out HXp.out (by decide)); have n_HRb := Aside0.mk (Off.R off_ HRb.out HXp.out (by decide)); clear HB HRo HRb HXp off_; have HXp := Aside0.mk hs_; clear hs_; have HB := n_HB; have HRo := n_HRo; have HRb := n_HRb; clear n_HB n_HRo n_HRb))
   clear gp_1
   go_wp2_with (refine Kd.event_run rfl (rw_load rfl rfl HXp.out Try.underlying73 rfl HI73.out) ?_)
   refine (lychref1_IpBytes.calls k a ((t - 1) % 256) pr i fl of_ s d Ao co o Ab cb b x xe _ (Kd.R_reads' HRo.out).2.2 (Kd.R_reads' HRo.out).2.1 (Kd.R_reads' HRb.out).2.2 (Kd.R_reads' HRb.out).2.1 HX.out).mono ?_
   rintro ev w4 ⟨vx, rfl, ho, hb⟩
   have HRx := Aside0.mk (Kd.R_mono (Kd.R_lower ho (below_size HB.out)) (ok' := fun _ => True) (fun _ _ => trivial))
   clear ho HX
   have hb_ := hb
   have n_HB := Aside0.mk (below_step HB.out hb_)
   have n_HRo := Aside0.mk (Kd.R_below HRo.out hb_)
   have n_HRb := Aside0.mk (Kd.R_below HRb.out hb_)
   have n_HXp := Aside0.mk (blk_below HXp.out hb_)
   clear HB HRo HRb HXp hb_
   have HB := n_HB
   have HRo := n_HRo
   have HRb := n_HRb
   have HXp := n_HXp
   clear n_HB n_HRo n_HRb n_HXp
   clear hb
   (try dsimp only)
   go_wp2
   (try simp only [Exit.inBlock, Exit.then])
   go_ret2
   exact ⟨_, rfl, HRx.out, HB.out⟩
 ·have ce1 : (e_ == 0) = false := beq_eq_false_iff_ne.2 ce
  have ce2 : (e_ != 0) = true := bne_iff_ne.2 ce
  rw [if_neg ce] at H
  clear ce
  simp only [Option.some.injEq, Prod.mk.injEq] at H
  obtain ⟨rfl, rfl⟩ := H
  (try dsimp only)
  go_wp2
  (try simp only [Exit.inBlock, Exit.then])
  go_ret2
  exact ⟨_, rfl, Kd.R_nil _ _ _ _ _, HB.out⟩
end Go.Proofs.Ytkmimamminddiaa.PB
/- Plain: a packet that was read is its parts written anew; one hop less. -/
namespace Go.Proofs.Ytkmimamminddiaa.Pure
set_option linter.unusedVariables false
set_option linter.unusedSimpArgs false
open Go.RowKit Go.Proofs.Ytkmimamminddiaa.PB Go.Proofs.YtkmimamminddiaaW.PrintWords Go.Proofs.YtkmimamminddiaaW.PrintLast
open Go.Proofs.Ytkmimamminddiaa.Spec Go.Proofs.Ytkmimamminddiaa.BytesEq
theorem take_range (l : List Int) (n : Nat) (h : n ≤ l.length) : l.take n = (List.range n).map (fun j => l.getD j 0) := by
 apply List.ext_getElem?
 intro j
 by_cases hj : j < n
 ·rw [List.getElem?_take, if_pos hj, List.getElem?_map, List.getElem?_range hj, Option.map_some, List.getD_eq_getElem?_getD, List.getElem?_eq_getElem (by omega)]
  rfl
 ·rw [List.getElem?_eq_none (by rw [List.length_take]; omega), List.getElem?_eq_none (by rw [List.length_map, List.length_range]; omega)]
theorem iseg_inv {l : List Int} (h : IsB l) {a t pr i fl of_ s d : Int} {o b : List Int} (e : iseg l = (a, t, pr, i, fl, of_, s, d, o, b, 0)) :
  l.take (g16 l 2).toNat = ihd a t pr i fl of_ s d o b (g16 l 10) ++ o ++ b ∧ 20 ≤ l.length ∧ g16 l 2 = 20 + (o.length : Int) + (b.length : Int) ∧ g16 l 2 ≤ (l.length : Int) ∧ ihead l = 20 + (o.length : Int) ∧ isumof l = 65535 := by
 unfold iseg at e
 by_cases c1 : l.length < 20
 ·rw [if_pos c1] at e; simp at e
 ·rw [if_neg c1] at e
  by_cases c2 : iodd l
  ·rw [if_pos c2] at e; simp at e
  ·rw [if_neg c2] at e
   by_cases c3 : (l.length : Int) < g16 l 2
   ·rw [if_pos c3] at e; simp at e
   ·rw [if_neg c3] at e
    by_cases c4 : isumof l ≠ 65535
    ·rw [if_pos c4] at e; simp at e
    ·rw [if_neg c4] at e
     have c4' : isumof l = 65535 := Decidable.not_not.1 c4
     have c5 : l.getD 0 0 / 16 = 4 ∧ ihead l ≥ 20 ∧ g16 l 2 ≥ ihead l := by
      unfold iodd at c2
      exact Decidable.not_not.1 c2
     simp only [Prod.mk.injEq, and_true] at e
     obtain ⟨ea, et, ep, ei, ef, eo, es, ed, eop, eb⟩ := e
     have hh := ihead_range l
     have hg := g16_range h 2
     have ho : (o.length : Int) = ihead l - 20 := by
      rw [← eop, List.length_drop, List.length_take]
      omega
     have hb : (b.length : Int) = g16 l 2 - ihead l := by
      rw [← eb, List.length_drop, List.length_take]
      omega
     refine ⟨?_, by omega, by omega, by omega, by omega, c4'⟩
     have t1 : l.take (g16 l 2).toNat = l.take (ihead l).toNat ++ b := by
      rw [← eb]
      conv => lhs; rw [← List.take_append_drop (ihead l).toNat (l.take (g16 l 2).toNat)]
      rw [List.take_take, Nat.min_eq_left (by omega)]
     have t2 : l.take (ihead l).toNat = l.take 20 ++ o := by
      rw [← eop]
      conv => lhs; rw [← List.take_append_drop 20 (l.take (ihead l).toNat)]
      rw [List.take_take, Nat.min_eq_left (by omega)]
     rw [t1, t2, take_range l 20 (by omega)]
     congr 2
     have hx : ∀ j, 0 ≤ l.getD j 0 ∧ l.getD j 0 ≤ 255 := h.getD
     unfold ihd
     have u0 : l.getD 0 0 = 64 + (20 + (o.length : Int)) / 4 := by
      have := hx 0
      have h1 : ihead l = 4 * (l.getD 0 0 % 16) := rfl
      omega
     have u2 : l.getD 2 0 = (20 + (o.length : Int) + (b.length : Int)) / 256 % 256 := by
      have h1 : g16 l 2 = l.getD 2 0 * 256 + l.getD 3 0 := rfl
      have := hx 2; have := hx 3
      omega
     have u3 : l.getD 3 0 = (20 + (o.length : Int) + (b.length : Int)) % 256 := by
      have h1 : g16 l 2 = l.getD 2 0 * 256 + l.getD 3 0 := rfl
      have := hx 2; have := hx 3
      omega
     have w16 : ∀ j n, g16 l j = n → l.getD j 0 = n / 256 % 256 ∧ l.getD (j + 1) 0 = n % 256 := fun j n hn => by
      have h1 : g16 l j = l.getD j 0 * 256 + l.getD (j + 1) 0 := rfl
      have := hx j; have := hx (j + 1)
      omega
     have w32 : ∀ j n, g32 l j = n → l.getD j 0 = n / 16777216 % 256 ∧ l.getD (j + 1) 0 = n / 65536 % 256 ∧ l.getD (j + 2) 0 = n / 256 % 256 ∧ l.getD (j + 3) 0 = n % 256 := fun j n hn => by
      have h1 : g32 l j = (l.getD j 0 * 256 + l.getD (j + 1) 0) * 65536 + (l.getD (j + 2) 0 * 256 + l.getD (j + 2 + 1) 0) := rfl
      have := hx j; have := hx (j + 1); have := hx (j + 2); have := hx (j + 3)
      have e3 : l.getD (j + 2 + 1) 0 = l.getD (j + 3) 0 := rfl
      omega
     have u4 := w16 4 i ei
     have u6 := w16 6 (fl * 8192 + of_) (by have := g16_range h 6; omega)
     have u10 := w16 10 _ rfl
     have u12 := w32 12 s es
     have u16 := w32 16 d ed
     have hr : (List.range 20).map (fun j => l.getD j 0) = [l.getD 0 0, l.getD 1 0, l.getD 2 0, l.getD 3 0, l.getD 4 0, l.getD 5 0, l.getD 6 0, l.getD 7 0, l.getD 8 0, l.getD 9 0, l.getD 10 0, l.getD 11 0, l.getD 12 0, l.getD 13 0, l.getD 14 0, l.getD 15 0, l.getD 16 0, l.getD 17 0, l.getD 18 0, l.getD 19 0] := rfl
     rw [hr, ea, et, ep, u0, u2, u3, u4.1, show l.getD 5 0 = i % 256 from u4.2, u6.1, show l.getD 7 0 = (fl * 8192 + of_) % 256 from u6.2, u10.1, show l.getD 11 0 = g16 l 10 % 256 from u10.2, u12.1, show l.getD 13 0 = s / 65536 % 256 from u12.2.1, show l.getD 14 0 = s / 256 % 256 from u12.2.2.1, show l.getD 15 0 = s % 256 from u12.2.2.2, u16.1, show l.getD 17 0 = d / 65536 % 256 from u16.2.1, show l.getD 18 0 = d / 256 % 256 from u16.2.2.1, show l.getD 19 0 = d % 256 from u16.2.2.2]
theorem own_eq {l : List Int} (h : IsB l) (h20 : 20 ≤ l.length) (hg : g16 l 2 ≤ (l.length : Int)) : rewrite_own.f l = some (l.take (g16 l 2).toNat, ihead l) := by
 have hr := g16_range h 2
 unfold rewrite_own.f
 rw [if_pos (by omega), two_at h 2 (by omega), Option.bind_some, if_pos hr.1, if_pos hg, clone_eq _ (by rw [List.length_take]; omega), Option.bind_some, if_pos (by omega), ihead_eq h]
def hopS (l : List Int) : List Int × Int :=
 match iseg l with
 | (a, t, pr, i, fl, of_, s, d, o, b, e) => if e = 0 then (if t = 0 then ([], 21) else (ibytes a (t - 1) pr i fl of_ s d o b, 0)) else ([], e)
theorem headed_ibytes {a t pr i fl of_ s d c : Int} {o b : List Int} (ha : U8 a) (ht : U8 t) (hp : U8 pr) (ho : IsB o) (h40 : (o.length : Int) ≤ 40) (K : Nat) (hK : 200 ≤ K) (n : Nat) (hn : n = 20 + o.length) : headed.f K (ihd a t pr i fl of_ s d o b c ++ o ++ b) n = some (ibytes a t pr i fl of_ s d o b) := by
 subst hn
 have e1 : put2L (ihd a t pr i fl of_ s d o b c ++ o ++ b) 10 0 = ihd a t pr i fl of_ s d o b 0 ++ o ++ b := rfl
 have hl : (ihd a t pr i fl of_ s d o b 0 ++ o).length = 20 + o.length := by rw [List.length_append, ihd_length]
 have e2 : (ihd a t pr i fl of_ s d o b 0 ++ o ++ b).take (20 + o.length) = ihd a t pr i fl of_ s d o b 0 ++ o := List.take_left' hl
 unfold headed.f
 rw [e1, e2, SumEq.of_eq _ ((ihd_isB ha ht hp h40 0).append ho) (by rw [hl]; omega) K (by rw [hl]; omega) (by omega), Option.bind_some]
 rfl
theorem hop_eq {l : List Int} (h : IsB l) (hl : l.length ≤ 3000) (K : Nat) (hK : 4000 ≤ K) : rewrite_Hop.f K l = some (hopS l) := by
 obtain ⟨a, t, pr, i, fl, of_, s, d, o, b, e, ei, ha, ht, hp, hi, hf, hg, hs, hd, ho, h4, h40, hb, hbl⟩ := iseg_is h
 unfold rewrite_Hop.f hopS
 rw [iparse_eq h (by omega) K (by omega), ei, Option.bind_some]
 dsimp only
 by_cases he : e = 0
 ·subst he
  rw [if_pos rfl, if_pos rfl]
  obtain ⟨i1, i2, i3, i4, i5, i6⟩ := iseg_inv h ei
  by_cases h0 : t = 0
  ·rw [if_pos h0, if_pos h0]
  ·rw [if_neg h0, if_neg h0, own_eq h i2 i4, Option.bind_some, i1, i5]
   dsimp only
   have hln : (ihd a t pr i fl of_ s d o b (g16 l 10) ++ o ++ b).length = 20 + o.length + b.length := by rw [List.length_append, List.length_append, ihd_length]
   unfold U8 at ht
   have e8 : rd (ihd a t pr i fl of_ s d o b (g16 l 10) ++ o ++ b) 8 = t := rfl
   have es : (ihd a t pr i fl of_ s d o b (g16 l 10) ++ o ++ b).set 8 ((t - 1) % 256) = ihd a ((t - 1) % 256) pr i fl of_ s d o b (g16 l 10) ++ o ++ b := rfl
   rw [if_pos ⟨by rw [hln]; omega, by omega, by rw [hln]; omega⟩, e8, es, headed_ibytes ha (by unfold U8; omega) hp ho h40 K (by omega) _ (by omega), Option.bind_some, show (t - 1) % 256 = t - 1 from by omega]
 ·rw [if_neg he, if_neg he]
theorem rhop_eq {l : List Int} (h : IsB l) (hl : l.length ≤ 3000) (K : Nat) (hK : 4000 ≤ K) : rHop.f K l = some (hopS l) := by
 obtain ⟨a, t, pr, i, fl, of_, s, d, o, b, e, ei, ha, ht, hp, hi, hf, hg, hs, hd, ho, h4, h40, hb, hbl⟩ := iseg_is h
 unfold rHop.f hopS
 rw [riparse_eq h (by omega) K (by omega), ei, Option.bind_some]
 dsimp only
 by_cases he : e = 0
 ·subst he
  rw [if_pos rfl, if_pos rfl]
  obtain ⟨i1, i2, i3, i4, i5, i6⟩ := iseg_inv h ei
  by_cases h0 : t = 0
  ·rw [if_pos h0, if_pos h0]
  ·unfold U8 at ht
   rw [if_neg h0, if_neg h0, show (t - 1) % 256 = t - 1 from by omega, ribytes_eq ha (by omega) hp hf.1 hg.1 ho (by omega) (by omega) K (by omega), Option.bind_some]
   unfold iout
   rw [if_neg (by unfold iwrong; omega), if_neg (by omega)]
 ·rw [if_neg he, if_neg he]
end Go.Proofs.Ytkmimamminddiaa.Pure
/- RewriteHops: its walk. -/
namespace Go.Proofs.Ytkmimamminddiaa.PB
open Go.RowKit Go.Proofs.YtkmimamminddiaaW.PrintWords Go.Proofs.YtkmimamminddiaaW.PrintLast Go.Proofs.YtkmimamminddiaaW.PrintMore
set_option linter.unusedVariables false
set_option linter.unusedSimpArgs false
open Go.Proofs.Ytkmimamminddiaa.Spec Go.Proofs.Ytkmimamminddiaa.BytesEq
theorem rewriteHops.calls (A : Option Addr) (c : Nat) (l : List Int) (p0 p1 p2 p3 p4 p5 p6 p7 p8 p9 side : Int) (w : World) (hC : Kd.C (Kd.int .u8) w A l.length l) (hL : l.length ≤ c) (hB : IsB l) (hp : 0 ≤ p0 ∧ (0 ≤ p8 ∧ p8 ≤ 255) ∧ (0 ≤ p9 ∧ p9 ≤ 255)) :
  Calls Try.prog 8 #[.slice A l.length c, .agg #[.int .u8 p0, .int .u8 p1, .int .u8 p2, .int .u8 p3, .int .u8 p4, .int .u8 p5, .int .u8 p6, .int .u8 p7, .int .u8 p8, .int .u8 p9], .int .u8 side] w fun e w' => e = .returned (.bool true) ∧ Below w.heap.size w w' := by
 have hu25 := Try.underlying25
 have HB := Aside0.mk (Below.refl w.heap.size w)
 have HC := Aside0.mk hC
 have HL := Aside0.mk hL
 have HIB := Aside0.mk hB
 have HP89 := Aside0.mk hp.2
 have HI25 : Aside0 ((Try.prog.info? 25).map (·.size) = some 10) := ⟨by kernel_rfl⟩
 obtain ⟨b, hb, hbB, hbl⟩ := Pure.packet_some 4000 (Nat.le_refl _) p0 p1 p2 p3 p4 p5 p6 p7 p8 p9 (wrap64 (side.tmod 2)) 0 hp.1
 obtain ⟨y, ye, hy⟩ : ∃ y ye, Pure.hopS b = (y, ye) := ⟨_, _, rfl⟩
 have HPK := Aside0.mk hb
 have HY1 := Aside0.mk ((Pure.hop_eq hbB (by omega) 4000 (Nat.le_refl _)).trans (congrArg some hy))
 have HY2 := Aside0.mk ((Pure.rhop_eq hbB (by omega) 4000 (Nat.le_refl _)).trans (congrArg some hy))
 clear hC hL hB hp hb hbB hbl hy
 go_enter Try.func8, Try.ntmps8
 go_upto_region 1 with (((with_reducible refine gate_dst (N := 4) rfl ?_); refine box_event ?hg_ (N := 4) ?hd_ (cs := #[.int .u8 p0, .int .u8 p1, .int .u8 p2, .int .u8 p3, .int .u8 p4, .int .u8 p5, .int .u8 p6, .int .u8 p7, .int .u8 p8, .int .u8 p9]) (t := 25) ?hr_ ?_; (case hd_ => rfl); (case hg_ => rfl); (case hr_ => first | (go_simp; done) | (go_simp; rfl)); intro gk hgg_ w1 hbox_ hbb_; have GHXk := Aside0.mk (show w.heap.size ≤ gk by rw [hgg_]; exact below_size HB.out); have HXk := Aside0.mk hbox_; have hb_ := hbb_; have n_HB := Aside0.mk (below_step HB.out hb_); clear HB hb_; have HB := n_HB; clear n_HB; clear hgg_ hbox_ hbb_))
 go_wp2_with fail
 refine (known8.calls _).mono ?_
 rintro ev w2 ⟨rfl, hb⟩
 have hb_ := hb
 have n_HB := Aside0.mk (below_step HB.out hb_)
 have n_HXk := Aside0.mk (blk_below HXk.out hb_)
 clear HB HXk hb_
 have HB := n_HB
 have HXk := n_HXk
 clear n_HB n_HXk
 clear hb
 (try dsimp only)
 by_cases big : (2000 : Int) < (l.length : Int)
 ·have b1 : decide ((2000 : Int) < (l.length : Int)) = true := decide_eq_true big
  have b2 : decide (2000 < l.length) = true := decide_eq_true (by omega)
  clear big
  go_wp2
  (try simp only [Exit.inBlock, Exit.then])
  go_ret
  exact ⟨rfl, HB.out⟩
 ·have b1 : decide ((2000 : Int) < (l.length : Int)) = false := decide_eq_false big
  have b2 : decide (2000 < l.length) = false := decide_eq_false (by omega)
  obtain ⟨x, xe, hx⟩ : ∃ x xe, Pure.hopS l = (x, xe) := ⟨_, _, rfl⟩
  have HX1 := Aside0.mk ((Pure.hop_eq HIB.out (by omega) 4000 (Nat.le_refl _)).trans (congrArg some hx))
  have HX2 := Aside0.mk ((Pure.rhop_eq HIB.out (by omega) 4000 (Nat.le_refl _)).trans (congrArg some hx))
  clear hx big
  have z1 : (xe == xe) = true := beq_self_eq_true _
  have z2 : (ye == ye) = true := beq_self_eq_true _
  go_wp2_with fail
  clear b1 b2
  refine (rewrite_Hop.calls 4000 A c l x xe _ (Kd.C_below HC.out HB.out) HL.out HX1.out).mono ?_
  rintro ev w3 ⟨v_, rfl, ho, hb⟩
  have HRx := Aside0.mk (Kd.R_lower ho (below_size HB.out))
  obtain ⟨Ax, cx, rfl, _, _⟩ := Kd.R_reads ho
  clear ho
  have hb_ := hb
  have n_HB := Aside0.mk (below_step HB.out hb_)
  have n_HXk := Aside0.mk (blk_below HXk.out hb_)
  clear HB HXk hb_
  have HB := n_HB
  have HXk := n_HXk
  clear n_HB n_HXk
  clear hb
  (try dsimp only)
  go_wp2_with fail
  refine (rHop.calls 4000 A c l x xe _ (Kd.C_below HC.out HB.out) HL.out HX2.out).mono ?_
  rintro ev w4 ⟨v_, rfl, ho, hb⟩
  have HRy := Aside0.mk (Kd.R_lower ho (below_size HB.out))
  obtain ⟨Ay, cy, rfl, _, _⟩ := Kd.R_reads ho
  clear ho
  have hb_ := hb
  have n_HB := Aside0.mk (below_step HB.out hb_)
  have n_HXk := Aside0.mk (blk_below HXk.out hb_)
  have n_HRx := Aside0.mk (Kd.R_below HRx.out hb_)
  clear HB HXk HRx hb_
  have HB := n_HB
  have HXk := n_HXk
  have HRx := n_HRx
  clear n_HB n_HXk n_HRx
  clear hb
  (try dsimp only)
  go_wp2_with (refine Kd.event_run rfl (rw_load rfl rfl HXk.out Try.underlying25 rfl HI25.out) ?_)
  refine (seat_packet.calls 4000 p0 p1 p2 p3 p4 p5 p6 p7 p8 p9 (wrap64 (side.tmod 2)) 0 b _ HP89.out HPK.out).mono ?_
  rintro ev w5 ⟨v_, rfl, ho, hb⟩
  have HRb := Aside0.mk (Kd.R_lower ho (below_size HB.out))
  obtain ⟨Ab, cb, rfl, _, _⟩ := Kd.R_reads ho
  clear ho
  have hb_ := hb
  have n_HB := Aside0.mk (below_step HB.out hb_)
  have n_HXk := Aside0.mk (blk_below HXk.out hb_)
  have n_HRx := Aside0.mk (Kd.R_below HRx.out hb_)
  have n_HRy := Aside0.mk (Kd.R_below HRy.out hb_)
  clear HB HXk HRx HRy hb_
  have HB := n_HB
  have HXk := n_HXk
  have HRx := n_HRx
  have HRy := n_HRy
  clear n_HB n_HXk n_HRx n_HRy
  clear hb
  (try dsimp only)
  go_wp2_with fail
  refine (rewrite_Hop.calls 4000 Ab cb b y ye _ (Kd.R_reads' HRb.out).2.2 (Kd.R_reads' HRb.out).2.1 HY1.out).mono ?_
  rintro ev w6 ⟨v_, rfl, ho, hb⟩
  have HRz := Aside0.mk (Kd.R_lower ho (below_size HB.out))
  obtain ⟨Az, cz, rfl, _, _⟩ := Kd.R_reads ho
  clear ho
  have hb_ := hb
  have n_HB := Aside0.mk (below_step HB.out hb_)
  have n_HXk := Aside0.mk (blk_below HXk.out hb_)
  have n_HRx := Aside0.mk (Kd.R_below HRx.out hb_)
  have n_HRy := Aside0.mk (Kd.R_below HRy.out hb_)
  have n_HRb := Aside0.mk (Kd.R_below HRb.out hb_)
  clear HB HXk HRx HRy HRb hb_
  have HB := n_HB
  have HXk := n_HXk
  have HRx := n_HRx
  have HRy := n_HRy
  have HRb := n_HRb
  clear n_HB n_HXk n_HRx n_HRy n_HRb
  clear hb
  (try dsimp only)
  go_wp2_with fail
  refine (rHop.calls 4000 Ab cb b y ye _ (Kd.R_reads' HRb.out).2.2 (Kd.R_reads' HRb.out).2.1 HY2.out).mono ?_
  rintro ev w7 ⟨v_, rfl, ho, hb⟩
  have HRw := Aside0.mk (Kd.R_lower ho (below_size HB.out))
  obtain ⟨Aw, cw, rfl, _, _⟩ := Kd.R_reads ho
  clear ho
  have hb_ := hb
  have n_HB := Aside0.mk (below_step HB.out hb_)
  have n_HXk := Aside0.mk (blk_below HXk.out hb_)
  have n_HRx := Aside0.mk (Kd.R_below HRx.out hb_)
  have n_HRy := Aside0.mk (Kd.R_below HRy.out hb_)
  have n_HRb := Aside0.mk (Kd.R_below HRb.out hb_)
  have n_HRz := Aside0.mk (Kd.R_below HRz.out hb_)
  clear HB HXk HRx HRy HRb HRz hb_
  have HB := n_HB
  have HXk := n_HXk
  have HRx := n_HRx
  have HRy := n_HRy
  have HRb := n_HRb
  have HRz := n_HRz
  clear n_HB n_HXk n_HRx n_HRy n_HRb n_HRz
  clear hb
  (try dsimp only)
  go_wp2_with fail
  refine (lychhelp_Bytes.calls Ax cx x Ay cy x true _ (Kd.R_reads' HRx.out).2.2 (Kd.R_reads' HRx.out).2.1 (Kd.R_reads' HRy.out).2.2 (Kd.R_reads' HRy.out).2.1 (bytes_refl x)).mono ?_
  rintro ev w_ ⟨rfl, ⟨nd, rfl⟩⟩
  have hb_ := pw_below_drewN (Below.refl w7.heap.size w7) nd
  have n_HB := Aside0.mk (below_step HB.out hb_)
  have n_HXk := Aside0.mk (blk_below HXk.out hb_)
  have n_HRx := Aside0.mk (Kd.R_below HRx.out hb_)
  have n_HRy := Aside0.mk (Kd.R_below HRy.out hb_)
  have n_HRb := Aside0.mk (Kd.R_below HRb.out hb_)
  have n_HRz := Aside0.mk (Kd.R_below HRz.out hb_)
  have n_HRw := Aside0.mk (Kd.R_below HRw.out hb_)
  clear HB HXk HRx HRy HRb HRz HRw hb_
  have HB := n_HB
  have HXk := n_HXk
  have HRx := n_HRx
  have HRy := n_HRy
  have HRb := n_HRb
  have HRz := n_HRz
  have HRw := n_HRw
  clear n_HB n_HXk n_HRx n_HRy n_HRb n_HRz n_HRw
  generalize w7.drewN nd = w8 at HB HXk HRx HRy HRb HRz HRw ⊢
  (try dsimp only)
  go_wp2_with fail
  refine (lychhelp_Bytes.calls Az cz y Aw cw y true _ (Kd.R_reads' HRz.out).2.2 (Kd.R_reads' HRz.out).2.1 (Kd.R_reads' HRw.out).2.2 (Kd.R_reads' HRw.out).2.1 (bytes_refl y)).mono ?_
  rintro ev w_ ⟨rfl, ⟨nd, rfl⟩⟩
  have hb_ := pw_below_drewN (Below.refl w8.heap.size w8) nd
  have n_HB := Aside0.mk (below_step HB.out hb_)
  have n_HXk := Aside0.mk (blk_below HXk.out hb_)
  have n_HRx := Aside0.mk (Kd.R_below HRx.out hb_)
  have n_HRy := Aside0.mk (Kd.R_below HRy.out hb_)
  have n_HRb := Aside0.mk (Kd.R_below HRb.out hb_)
  have n_HRz := Aside0.mk (Kd.R_below HRz.out hb_)
  have n_HRw := Aside0.mk (Kd.R_below HRw.out hb_)
  clear HB HXk HRx HRy HRb HRz HRw hb_
  have HB := n_HB
  have HXk := n_HXk
  have HRx := n_HRx
  have HRy := n_HRy
  have HRb := n_HRb
  have HRz := n_HRz
  have HRw := n_HRw
  clear n_HB n_HXk n_HRx n_HRy n_HRb n_HRz n_HRw
  generalize w8.drewN nd = w9 at HB HXk HRx HRy HRb HRz HRw ⊢
  (try dsimp only)
  go_wp2
  (try simp only [Exit.inBlock, Exit.then])
  go_ret
  exact ⟨rfl, HB.out⟩
end Go.Proofs.Ytkmimamminddiaa.PB
/- lychseat.Pack and api.Point by value, opened. -/
namespace Go.Proofs.YtkmimamminddiaaW.AggWords
open Go.Joins Go.ChangeShapes Go.WideShapes Go.RowKit Go.Deep
set_option linter.unusedVariables false
set_option linter.unusedSimpArgs false
theorem cutp_ {l p : List Value} {a k b : Nat} (h : (l.drop a).take k = p) (hb : a + k = b) : l.drop a = p ++ l.drop b := by
 have h1 := (List.take_append_drop k (l.drop a)).symm
 rw [h, List.drop_drop, hb] at h1
 exact h1
section
variable {H : Type} {enc : TypeId × Value → H} {w : World} {base : Nat} {spare : Nat → Bool} {held : Bool}
theorem open_pack {r : Reach} {b0 : Nat} {v : Value} {d : DataW H} {p : List MemPlace} (hv : Value.okWide Try.prog w r b0 25 v) (h : DataW.Trod enc Try.prog w base spare held 25 v d p) :
  ∃ x0 x1 x2 x3 x4 x5 x6 x7 x8 x9 : Int, v = .agg #[.int .u8 x0, .int .u8 x1, .int .u8 x2, .int .u8 x3, .int .u8 x4, .int .u8 x5, .int .u8 x6, .int .u8 x7, .int .u8 x8, .int .u8 x9] ∧ (Lit.int .u8 x0).wf = true ∧ (Lit.int .u8 x1).wf = true ∧ (Lit.int .u8 x2).wf = true ∧ (Lit.int .u8 x3).wf = true ∧ (Lit.int .u8 x4).wf = true ∧ (Lit.int .u8 x5).wf = true ∧ (Lit.int .u8 x6).wf = true ∧ (Lit.int .u8 x7).wf = true ∧ (Lit.int .u8 x8).wf = true ∧ (Lit.int .u8 x9).wf = true := by
 have k5 : Try.prog.cellsOf 5 = 1 := by kernel_rfl
 have kT : Try.prog.cellsOf 25 = 10 := by kernel_rfl
 obtain ⟨cs, rfl, hsz⟩ := okWide_struct Try.underlying25 hv
 obtain ⟨l⟩ := cs
 obtain ⟨fuel, hf⟩ := h
 obtain ⟨xs, n, _, hx, hlc, hlen, hg⟩ := DataW.trod_struct Try.underlying25 hf
 have hl : l.length = 10 := hlc.trans kT
 have g0 : DataW.trod enc Try.prog w base spare held n 5 ((l.drop 0).take (Try.prog.cellsOf 5)) = xs[0]? := hg 0 _ rfl
 obtain ⟨y0, hy0⟩ : ∃ y, xs[0]? = some y := ⟨_, List.getElem?_eq_getElem (by rw [hlen]; decide)⟩
 rw [hy0, k5] at g0
 obtain ⟨x0, e0, _, w0⟩ := DataW.trod_int Try.underlying5 g0
 have g1 : DataW.trod enc Try.prog w base spare held n 5 ((l.drop 1).take (Try.prog.cellsOf 5)) = xs[1]? := hg 1 _ rfl
 obtain ⟨y1, hy1⟩ : ∃ y, xs[1]? = some y := ⟨_, List.getElem?_eq_getElem (by rw [hlen]; decide)⟩
 rw [hy1, k5] at g1
 obtain ⟨x1, e1, _, w1⟩ := DataW.trod_int Try.underlying5 g1
 have g2 : DataW.trod enc Try.prog w base spare held n 5 ((l.drop 2).take (Try.prog.cellsOf 5)) = xs[2]? := hg 2 _ rfl
 obtain ⟨y2, hy2⟩ : ∃ y, xs[2]? = some y := ⟨_, List.getElem?_eq_getElem (by rw [hlen]; decide)⟩
 rw [hy2, k5] at g2
 obtain ⟨x2, e2, _, w2⟩ := DataW.trod_int Try.underlying5 g2
 have g3 : DataW.trod enc Try.prog w base spare held n 5 ((l.drop 3).take (Try.prog.cellsOf 5)) = xs[3]? := hg 3 _ rfl
 obtain ⟨y3, hy3⟩ : ∃ y, xs[3]? = some y := ⟨_, List.getElem?_eq_getElem (by rw [hlen]; decide)⟩
 rw [hy3, k5] at g3
 obtain ⟨x3, e3, _, w3⟩ := DataW.trod_int Try.underlying5 g3
 have g4 : DataW.trod enc Try.prog w base spare held n 5 ((l.drop 4).take (Try.prog.cellsOf 5)) = xs[4]? := hg 4 _ rfl
 obtain ⟨y4, hy4⟩ : ∃ y, xs[4]? = some y := ⟨_, List.getElem?_eq_getElem (by rw [hlen]; decide)⟩
 rw [hy4, k5] at g4
 obtain ⟨x4, e4, _, w4⟩ := DataW.trod_int Try.underlying5 g4
 have g5 : DataW.trod enc Try.prog w base spare held n 5 ((l.drop 5).take (Try.prog.cellsOf 5)) = xs[5]? := hg 5 _ rfl
 obtain ⟨y5, hy5⟩ : ∃ y, xs[5]? = some y := ⟨_, List.getElem?_eq_getElem (by rw [hlen]; decide)⟩
 rw [hy5, k5] at g5
 obtain ⟨x5, e5, _, w5⟩ := DataW.trod_int Try.underlying5 g5
 have g6 : DataW.trod enc Try.prog w base spare held n 5 ((l.drop 6).take (Try.prog.cellsOf 5)) = xs[6]? := hg 6 _ rfl
 obtain ⟨y6, hy6⟩ : ∃ y, xs[6]? = some y := ⟨_, List.getElem?_eq_getElem (by rw [hlen]; decide)⟩
 rw [hy6, k5] at g6
 obtain ⟨x6, e6, _, w6⟩ := DataW.trod_int Try.underlying5 g6
 have g7 : DataW.trod enc Try.prog w base spare held n 5 ((l.drop 7).take (Try.prog.cellsOf 5)) = xs[7]? := hg 7 _ rfl
 obtain ⟨y7, hy7⟩ : ∃ y, xs[7]? = some y := ⟨_, List.getElem?_eq_getElem (by rw [hlen]; decide)⟩
 rw [hy7, k5] at g7
 obtain ⟨x7, e7, _, w7⟩ := DataW.trod_int Try.underlying5 g7
 have g8 : DataW.trod enc Try.prog w base spare held n 5 ((l.drop 8).take (Try.prog.cellsOf 5)) = xs[8]? := hg 8 _ rfl
 obtain ⟨y8, hy8⟩ : ∃ y, xs[8]? = some y := ⟨_, List.getElem?_eq_getElem (by rw [hlen]; decide)⟩
 rw [hy8, k5] at g8
 obtain ⟨x8, e8, _, w8⟩ := DataW.trod_int Try.underlying5 g8
 have g9 : DataW.trod enc Try.prog w base spare held n 5 ((l.drop 9).take (Try.prog.cellsOf 5)) = xs[9]? := hg 9 _ rfl
 obtain ⟨y9, hy9⟩ : ∃ y, xs[9]? = some y := ⟨_, List.getElem?_eq_getElem (by rw [hlen]; decide)⟩
 rw [hy9, k5] at g9
 obtain ⟨x9, e9, _, w9⟩ := DataW.trod_int Try.underlying5 g9
 have hd : l = l.drop 0 := rfl
 rw [cutp_ e0 (show 0 + 1 = 1 from rfl), cutp_ e1 (show 1 + 1 = 2 from rfl), cutp_ e2 (show 2 + 1 = 3 from rfl), cutp_ e3 (show 3 + 1 = 4 from rfl), cutp_ e4 (show 4 + 1 = 5 from rfl), cutp_ e5 (show 5 + 1 = 6 from rfl), cutp_ e6 (show 6 + 1 = 7 from rfl), cutp_ e7 (show 7 + 1 = 8 from rfl), cutp_ e8 (show 8 + 1 = 9 from rfl), cutp_ e9 (show 9 + 1 = 10 from rfl), List.drop_eq_nil_of_le (show l.length ≤ 10 by omega)] at hd
 subst hd
 exact ⟨x0, x1, x2, x3, x4, x5, x6, x7, x8, x9, rfl, w0, w1, w2, w3, w4, w5, w6, w7, w8, w9⟩
end
end Go.Proofs.YtkmimamminddiaaW.AggWords
