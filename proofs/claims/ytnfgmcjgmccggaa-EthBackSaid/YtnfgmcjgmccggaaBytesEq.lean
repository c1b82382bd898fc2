/- Numbers out of bytes, and bytes of numbers: what the printed helps of the references come to. -/
import Derived.Test.YtnfgmcjgmccggaaPAx5
import Derived.Test.YtnfgmcjgmccggaaPAx1
import Derived.Test.YtnfgmcjgmccggaaPAx3
import Derived.Test.YtnfgmcjgmccggaaSpec
namespace Go.Proofs.Ytnfgmcjgmccggaa.BytesEq
set_option linter.unusedVariables false
set_option linter.unusedSimpArgs false
open Go.RowKit Go.Proofs.Ytnfgmcjgmccggaa.PA Go.Proofs.YtnfgmcjgmccggaaW.PrintWords Go.Proofs.YtnfgmcjgmccggaaW.PrintLast Go.Proofs.Ytnfgmcjgmccggaa.Spec

theorem rd_nat (l : List Int) (i : Int) (j : Nat) (h : i = (j : Int)) : rd l i = l.getD j 0 := by subst h; simp [rd]
theorem rd_mid (l : List Int) (a b : Nat) (i : Int) (j : Nat) (h : i = (j : Int)) (hb : a + j < b) : rd ((l.take b).drop a) i = l.getD (a + j) 0 := by
  rw [rd_nat _ _ j h, List.getD_eq_getElem?_getD, List.getElem?_drop, List.getElem?_take_of_lt hb, List.getD_eq_getElem?_getD]
theorem getD_app_left (l m : List Int) (i : Nat) (h : i < l.length) : (l ++ m).getD i 0 = l.getD i 0 := by
  rw [List.getD_eq_getElem?_getD, List.getElem?_append_left h, List.getD_eq_getElem?_getD]
theorem u8_wf {x : Int} (h : (Lit.int .u8 x).wf = true) : 0 ≤ x ∧ x ≤ 255 := by
  simp [Lit.wf, IntKind.min, IntKind.max, IntKind.bits, IntKind.signed] at h; omega
theorem u16_wf {x : Int} (h : (Lit.int .u16 x).wf = true) : 0 ≤ x ∧ x ≤ 65535 := by
  simp [Lit.wf, IntKind.min, IntKind.max, IntKind.bits, IntKind.signed] at h; omega
theorem u32_wf {x : Int} (h : (Lit.int .u32 x).wf = true) : 0 ≤ x ∧ x ≤ 4294967295 := by
  simp [Lit.wf, IntKind.min, IntKind.max, IntKind.bits, IntKind.signed] at h; omega
theorem i64_wf {x : Int} (h : (Lit.int .i64 x).wf = true) : -9223372036854775808 ≤ x ∧ x ≤ 9223372036854775807 := by
  simp [Lit.wf, IntKind.min, IntKind.max, IntKind.bits, IntKind.signed] at h; omega
theorem isB_wf {l : List Int} (h : ∀ x ∈ l, (Lit.int .u8 x).wf = true) : IsB l := fun x hx => u8_wf (h x hx)

/-- numbers in bytes, the highest byte first -/
def g16 (l : List Int) (i : Nat) : Int := l.getD i 0 * 256 + l.getD (i + 1) 0
def g32 (l : List Int) (i : Nat) : Int := g16 l i * 65536 + g16 l (i + 2)
theorem g16_range {l : List Int} (h : IsB l) (i : Nat) : 0 ≤ g16 l i ∧ g16 l i ≤ 65535 := by
  have h1 := h.getD i
  have h2 := h.getD (i + 1)
  unfold g16; omega
theorem g32_range {l : List Int} (h : IsB l) (i : Nat) : 0 ≤ g32 l i ∧ g32 l i ≤ 4294967295 := by
  have h1 := g16_range h i
  have h2 := g16_range h (i + 2)
  unfold g32; omega
theorem word16 {a b : Int} (ha : 0 ≤ a ∧ a ≤ 255) (hb : 0 ≤ b ∧ b ≤ 255) : Go.bits .or .u16 (IntKind.u16.wrap ((IntKind.u16.wrap a) * 256)) (IntKind.u16.wrap b) = a * 256 + b := by
  rw [u16w (n := a) (by omega) (by omega), u16w (n := a * 256) (by omega) (by omega), u16w (n := b) (by omega) (by omega), join16 ha hb]
theorem word32 {a b : Int} (ha : 0 ≤ a ∧ a ≤ 65535) (hb : 0 ≤ b ∧ b ≤ 65535) : Go.bits .or .u32 (((a % 4294967296) * 65536) % 4294967296) (b % 4294967296) = a * 65536 + b := by
  rw [show a % 4294967296 = a from by omega, show (a * 65536) % 4294967296 = a * 65536 from by omega, show b % 4294967296 = b from by omega]
  exact or_u32 16 (by omega) (by omega) (by omega) (by omega) (by omega) (by omega)
theorem get16_eq {l : List Int} (h : IsB l) (i : Nat) (hi : i + 2 ≤ l.length) (hl : l.length ≤ 1000000000) : lychref1_Get16.f l (i : Int) = some (g16 l i) := by
  unfold lychref1_Get16.f
  have e : wrap64 ((i : Int) + 1) = ((i + 1 : Nat) : Int) := by rw [wrap64_id (by omega) (by omega)]; omega
  rw [e, if_pos (by omega), if_pos (by omega), if_pos (by omega), if_pos (by omega), rd_nat l _ i rfl, rd_nat l _ (i + 1) rfl, word16 (h.getD i) (h.getD (i + 1))]
  rfl
theorem cut_eq (l : List Int) (a b : Nat) (h1 : a ≤ b) (h2 : b ≤ l.length) (hl : l.length ≤ 1000000000) : lychref1_cut.f l (a : Int) (b : Int) = some ((l.take b).drop a) := by
  unfold lychref1_cut.f
  have hlen : ((l.take b).drop a).length ≤ l.length := by rw [List.length_drop, List.length_take]; omega
  rw [if_pos (by omega), if_pos (by omega), if_pos (by omega)]
  simp only [Int.toNat_natCast, List.length_nil, Nat.zero_add, List.nil_append]
  rw [if_pos (by omega)]
theorem clone_eq (l : List Int) (hl : l.length ≤ 1000000000) : slices_Clone_byte_byte.f l = some l := by
  unfold slices_Clone_byte_byte.f
  rw [if_pos (by omega)]
theorem bytes_refl (l : List Int) : lychhelp_Bytes.f l l = some true := by
  unfold lychhelp_Bytes.f
  simp
end Go.Proofs.Ytnfgmcjgmccggaa.BytesEq
