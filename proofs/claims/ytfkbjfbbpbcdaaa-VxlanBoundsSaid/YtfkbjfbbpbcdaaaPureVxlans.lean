/- VxlanReads, VxlanBits, VxlanBack, VxlanBounds, the plain statements: for all bytes, networks and lengths the printed laws return true. -/
import Derived.Test.YtfkbjfbbpbcdaaaPAx1
import Derived.Test.YtfkbjfbbpbcdaaaPAx2
import Derived.Test.YtfkbjfbbpbcdaaaBytesEq
namespace Go.Proofs.Ytfkbjfbbpbcdaaa.Pure
set_option linter.unusedVariables false
set_option linter.unusedSimpArgs false
open Go.RowKit Go.Proofs.Ytfkbjfbbpbcdaaa.PA Go.Proofs.YtfkbjfbbpbcdaaaW.PrintWords Go.Proofs.YtfkbjfbbpbcdaaaW.PrintLast
open Go.Proofs.Ytfkbjfbbpbcdaaa.Spec Go.Proofs.Ytfkbjfbbpbcdaaa.BytesEq

theorem vknown : lychlaw7_known.f = some true := by decide +kernel
theorem bit8 {a : Int} (h : 0 ≤ a ∧ a ≤ 255) : (Go.bits .and .u8 (Go.bits .or .u8 a 8) 8 = 0) = False ∧ (Go.bits .and .u8 (Go.bits .andNot .u8 a 8) 8 = 0) = True := by
  obtain ⟨n, rfl⟩ := Int.eq_ofNat_of_zero_le h.1
  have hn : n < 256 := by omega
  have : ∀ m : Fin 256, (Go.bits .and .u8 (Go.bits .or .u8 ((m.val : Nat) : Int) 8) 8 ≠ 0) ∧ (Go.bits .and .u8 (Go.bits .andNot .u8 ((m.val : Nat) : Int) 8) 8 = 0) := by decide +kernel
  have h2 := this ⟨n, hn⟩
  exact ⟨by simpa using h2.1, by simpa using h2.2⟩
/-- the program's reading -/
theorem vparse_eq {l : List Int} (h : IsB l) (hl : l.length ≤ 1000000000) : vxlan_Parse.f l =
    if l.length < 8 then some (0, [], 20) else if Go.bits .and .u8 (l.getD 0 0) 8 = 0 then some (0, [], 21) else some ((l.getD 4 0 * 256 + l.getD 5 0) * 256 + l.getD 6 0, l.drop 8, 0) := by
  unfold vxlan_Parse.f
  by_cases h8 : l.length < 8
  · rw [if_pos (by omega), if_pos h8]
  · have hlen : ((l.take 7).drop 4).length = 3 := by rw [List.length_drop, List.length_take]; omega
    rw [if_neg (by omega), if_neg h8, if_pos (by omega), rd_nat l 0 0 rfl]
    by_cases hb : Go.bits .and .u8 (l.getD 0 0) 8 = 0
    · rw [if_pos hb, if_pos hb]
    · have h4 := h.getD 4
      have h5 := h.getD 5
      have h6 := h.getD 6
      rw [if_neg hb, if_neg hb, hlen, if_pos (by omega), if_pos (by omega), if_pos (by omega), if_pos (by omega), if_pos (by omega), clone_eq _ (by rw [List.length_drop]; omega)]
      simp only [Option.bind_some]
      rw [rd_mid l 4 7 0 0 rfl (by omega), rd_mid l 4 7 1 1 rfl (by omega), rd_mid l 4 7 2 2 rfl (by omega)]
      rw [show 4 + 0 = 4 from rfl, show 4 + 1 = 5 from rfl, show 4 + 2 = 6 from rfl, show l.getD 4 0 % 4294967296 = l.getD 4 0 from by omega, show l.getD 5 0 % 4294967296 = l.getD 5 0 from by omega, show l.getD 6 0 % 4294967296 = l.getD 6 0 from by omega]
      rw [show l.getD 4 0 * 65536 % 4294967296 = l.getD 4 0 * 65536 from by omega, show l.getD 5 0 * 256 % 4294967296 = l.getD 5 0 * 256 from by omega]
      rw [or_u32 16 (x := l.getD 4 0 * 65536) (y := l.getD 5 0 * 256) (by omega) (by omega) (by omega) (by omega) (by omega) (by omega)]
      rw [or_u32 8 (x := l.getD 4 0 * 65536 + l.getD 5 0 * 256) (y := l.getD 6 0) (by omega) (by omega) (by omega) (by omega) (by omega) (by omega)]
      congr 2
      omega
/-- the reference's -/
theorem rvparse_eq {l : List Int} (h : IsB l) (hl : l.length ≤ 1000000000) : lychref1_Vxlan.f l =
    if l.length < 8 then some (0, [], 20) else if Go.bits .and .u8 (l.getD 0 0) 8 = 0 then some (0, [], 21) else some ((l.getD 4 0 * 256 + l.getD 5 0) * 256 + l.getD 6 0, l.drop 8, 0) := by
  unfold lychref1_Vxlan.f
  by_cases h8 : l.length < 8
  · rw [if_pos (by omega), if_pos h8]
  · rw [if_neg (by omega), if_neg h8, if_pos (by omega), rd_nat l 0 0 rfl]
    by_cases hz : Go.bits .and .u8 (l.getD 0 0) 8 = 0
    · rw [if_pos hz, if_pos hz]
    · rw [if_neg hz, if_neg hz]
      have e4 := get32_eq h 4 (by omega) (by omega)
      have e8 := cut_eq l 8 l.length (by omega) (by omega) (by omega)
      rw [show ((4 : Nat) : Int) = 4 from rfl] at e4
      rw [show ((8 : Nat) : Int) = 8 from rfl] at e8
      rw [e4, e8]
      simp only [Option.bind_some, List.take_length]
      have h4 := h.getD 4
      have h5 := h.getD 5
      have h6 := h.getD 6
      have h7 := h.getD 7
      have e : g32 l 4 / 256 = (l.getD 4 0 * 256 + l.getD 5 0) * 256 + l.getD 6 0 := by
        show ((l.getD 4 0 * 256 + l.getD 5 0) * 65536 + (l.getD 6 0 * 256 + l.getD 7 0)) / 256 = _
        omega
      rw [e]
theorem VxlanReads : lychlaw7_VxlanReads.Pure := by
  intro l _ hl hb
  have h := isB_wf hb
  unfold lychlaw7_VxlanReads.f
  rw [vknown]
  simp only [Option.bind_some, if_true]
  by_cases hc : (l.length : Int) > 3000
  · rw [if_pos hc]
  · rw [if_neg hc, vparse_eq h (by omega), rvparse_eq h (by omega)]
    by_cases h8 : l.length < 8
    · simp only [if_pos h8, Option.bind_some, if_true, bytes_refl]
      rfl
    · by_cases hz : Go.bits .and .u8 (l.getD 0 0) 8 = 0
      · simp only [if_neg h8, if_pos hz, Option.bind_some, if_true, bytes_refl]
        rfl
      · simp only [if_neg h8, if_neg hz, Option.bind_some, if_true, bytes_refl]
        rfl
theorem VxlanBits : lychlaw7_VxlanBits.Pure := by
  intro v a b c d e hv ha hb hc hd he
  have hv := u32_wf hv
  have ha := u8_wf ha
  have hb := u8_wf hb
  have hc := u8_wf hc
  have hd := u8_wf hd
  have he := u8_wf he
  have hm : Go.bits .and .u32 v 16777215 = v % 16777216 := and_u32 24 (by decide) hv.1 hv.2
  have h8 := bit8 ha
  have ho : 0 ≤ Go.bits .or .u8 a 8 ∧ Go.bits .or .u8 a 8 ≤ 255 := by
    obtain ⟨n, rfl⟩ := Int.eq_ofNat_of_zero_le ha.1
    have hn : n < 256 := by omega
    have : ∀ m : Fin 256, 0 ≤ Go.bits .or .u8 ((m.val : Nat) : Int) 8 ∧ Go.bits .or .u8 ((m.val : Nat) : Int) 8 ≤ 255 := by decide +kernel
    exact this ⟨n, hn⟩
  have hn : 0 ≤ Go.bits .andNot .u8 a 8 ∧ Go.bits .andNot .u8 a 8 ≤ 255 := by
    obtain ⟨n, rfl⟩ := Int.eq_ofNat_of_zero_le ha.1
    have hn : n < 256 := by omega
    have : ∀ m : Fin 256, 0 ≤ Go.bits .andNot .u8 ((m.val : Nat) : Int) 8 ∧ Go.bits .andNot .u8 ((m.val : Nat) : Int) 8 ≤ 255 := by decide +kernel
    exact this ⟨n, hn⟩
  have hB : ∀ x : Int, 0 ≤ x ∧ x ≤ 255 → IsB [x, b, c, d, v % 16777216 / 65536 % 256, v % 16777216 / 256 % 256, v % 16777216 % 256, e] := fun x hx =>
    .cons hx (.cons hb (.cons hc (.cons hd (.cons (by omega) (.cons (by omega) (.cons (by omega) (.cons he .nil)))))))
  unfold lychlaw7_VxlanBits.f
  rw [vknown, hm, vparse_eq (hB _ ho) (by simp), vparse_eq (hB _ hn) (by simp)]
  simp only [Option.bind_some, if_true, List.length_cons, List.length_nil, List.getD_cons_zero, List.getD_cons_succ, List.drop_succ_cons, List.drop_zero, List.drop_nil]
  simp only [h8.1, h8.2, if_true, if_false, Option.bind_some]
  have hz : (v % 16777216 / 65536 % 256 * 256 + v % 16777216 / 256 % 256) * 256 + v % 16777216 % 256 = v % 16777216 := by omega
  simp
  omega
theorem vbytes_eq {v : Int} {l : List Int} (hl : l.length ≤ 1000000000) : vxlan_Bytes.f v l =
    if v > 16777215 then some ([], 21) else if (l.length : Int) > 1592 then some ([], 23) else some ([8, 0, 0, 0, v / 65536 % 256, v / 256 % 256, v % 256, 0] ++ l, 0) := by
  unfold vxlan_Bytes.f
  split
  · rfl
  · split
    · rfl
    · simp only [Option.bind_some, List.length_cons, List.length_nil]
      rw [if_pos (by omega)]
theorem rvbytes_eq {v : Int} (hv : 0 ≤ v ∧ v ≤ 4294967295) {l : List Int} (hl : l.length ≤ 1000000000) : lychref1_VxlanBytes.f v l =
    if v > 16777215 then some ([], 21) else if (l.length : Int) > 1592 then some ([], 23) else some ([8, 0, 0, 0, v / 65536 % 256, v / 256 % 256, v % 256, 0] ++ l, 0) := by
  unfold lychref1_VxlanBytes.f lychref1_Put32.f
  split
  · rfl
  · split
    · rfl
    · simp only [Option.bind_some, List.length_cons, List.length_nil]
      rw [if_pos (by omega)]
      simp only [Option.bind_some, List.cons_append, List.nil_append, List.length_cons, List.length_nil]
      rw [if_pos (by omega)]
      congr 2
      rw [show v * 256 % 4294967296 / 16777216 % 256 = v / 65536 % 256 from by omega, show v * 256 % 4294967296 / 65536 % 256 = v / 256 % 256 from by omega, show v * 256 % 4294967296 / 256 % 256 = v % 256 from by omega, show v * 256 % 4294967296 % 256 = 0 from by omega]
theorem VxlanBack : lychlaw7_VxlanBack.Pure := by
  intro v l m hv _ hl hb hm
  have hv := u32_wf hv
  have hm := u16_wf hm
  have hb := isB_wf hb
  refine ⟨1, ?_⟩
  unfold lychlaw7_VxlanBack.f
  rw [vknown]
  simp only [Option.bind_some, if_true]
  by_cases hc : (l.length : Int) > 2000
  · rw [if_pos hc]
  · rw [if_neg hc, Int.tmod_eq_emod_of_nonneg hm.1]
    simp only [List.length_nil, Nat.zero_add, List.nil_append, Option.bind_some]
    rw [if_pos (by omega), if_pos (by omega), if_pos (by omega)]
    obtain ⟨z, hz⟩ : ∃ z, z = l ++ List.replicate (m % 1700).toNat (0 : Int) := ⟨_, rfl⟩
    have hzl : z.length = l.length + (m % 1700).toNat := by rw [hz]; simp
    have hzb : IsB z := hz ▸ hb.append (IsB.replicate _)
    rw [← hz, vbytes_eq (by omega), rvbytes_eq hv (by omega)]
    simp only [lychlaw7_VxlanBack.j0]
    by_cases h1 : v > 16777215
    · simp [h1, bytes_refl]
    · by_cases h2 : (z.length : Int) > 1592
      · simp [h1, h2, bytes_refl]
      · rw [if_neg h1, if_neg h2]
        have hB : IsB ([8, 0, 0, 0, v / 65536 % 256, v / 256 % 256, v % 256, 0] ++ z) := IsB.append
          (.cons (by omega) (.cons (by omega) (.cons (by omega) (.cons (by omega) (.cons (by omega) (.cons (by omega) (.cons (by omega) (.cons (by omega) .nil)))))))) hzb
        have h8 : (Go.bits .and .u8 8 8 = 0) = False := by decide
        simp only [Option.bind_some, if_true, bytes_refl, Bool.not_true]
        rw [if_neg (by decide), vparse_eq hB (by simp; omega)]
        simp only [List.cons_append, List.nil_append, List.length_cons, List.getD_cons_zero, List.getD_cons_succ, List.drop_succ_cons, List.drop_zero]
        rw [if_neg (by omega)]
        simp only [h8, if_false, Option.bind_some]
        rw [if_pos (by omega), bytes_refl]
        rfl
theorem VxlanBounds : lychlaw7_VxlanBounds.Pure := by
  intro n v hn hv
  have hn := u16_wf hn
  have hv := u32_wf hv
  unfold lychlaw7_VxlanBounds.f
  have e1 : wrap64 (Int.tmod n 1700) = n % 1700 := by rw [Int.tmod_eq_emod_of_nonneg hn.1, wrap64_id (by omega) (by omega)]
  have e2 : wrap64 (n % 1700 + 8) = n % 1700 + 8 := wrap64_id (by omega) (by omega)
  rw [vknown, e1, e2]
  simp only [Option.bind_some, if_true]
  have hl : (List.replicate (n % 1700).toNat (0 : Int)).length = (n % 1700).toNat := by simp
  rw [if_pos (by omega), if_pos (by omega), vbytes_eq (by omega)]
  by_cases h1 : v > 16777215
  · simp [h1]
  · rw [if_neg h1]
    by_cases h2 : n % 1700 + 8 > 1600
    · rw [if_pos (by omega)]
      simp [h1, h2]
    · rw [if_neg (by omega)]
      simp only [Option.bind_some, if_neg h1, if_neg h2, if_true, List.length_append, List.length_cons, List.length_nil, hl]
      congr 1
      rw [beq_iff_eq]; omega
end Go.Proofs.Ytfkbjfbbpbcdaaa.Pure
