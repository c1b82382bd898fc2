/- What the proofs of EthReads, EthOnce, EthBounds, EthBack share. -/
import Derived.Test.YtnfgmcjgmccggaaPAx4
import Derived.Test.YtnfgmcjgmccggaaPAx6
import Derived.Test.YtnfgmcjgmccggaaPAx12
import Derived.Test.YtnfgmcjgmccggaaPAx11
import Derived.Test.YtnfgmcjgmccggaaPAx7
import Derived.Test.YtnfgmcjgmccggaaPAx10
import Derived.Test.YtnfgmcjgmccggaaPAx2
import Derived.Test.YtnfgmcjgmccggaaBytesEq
namespace Go.Proofs.Ytnfgmcjgmccggaa.Pure
set_option linter.unusedVariables false
set_option linter.unusedSimpArgs false
open Go.RowKit Go.Proofs.Ytnfgmcjgmccggaa.PA Go.Proofs.YtnfgmcjgmccggaaW.PrintWords Go.Proofs.YtnfgmcjgmccggaaW.PrintLast
open Go.Proofs.Ytnfgmcjgmccggaa.Spec Go.Proofs.Ytnfgmcjgmccggaa.BytesEq

theorem eknown : lychlaw2_known.f = some true := by decide +kernel
theorem w01 : wrap64 (0 + 1) = 1 := wrap64_id (by omega) (by omega)
theorem w12 : wrap64 (1 + 1) = 2 := wrap64_id (by omega) (by omega)
theorem w23 : wrap64 (2 + 1) = 3 := wrap64_id (by omega) (by omega)
theorem w34 : wrap64 (3 + 1) = 4 := wrap64_id (by omega) (by omega)
/-- a frame out of bytes -/
def eseg (l : List Int) : Int × Int × Int × Int × Int × Int × Int × Int × Int × Int × Int × Int × Int × List Int × Int :=
  if (l.length : Int) > 1600 then (0, 0, 0, 0, 0, 0, 0, 0, 0, 0, 0, 0, 0, [], 23) else if (l.length : Int) < 14 then (0, 0, 0, 0, 0, 0, 0, 0, 0, 0, 0, 0, 0, [], 20) else (l.getD 0 0, l.getD 1 0, l.getD 2 0, l.getD 3 0, l.getD 4 0, l.getD 5 0, l.getD 6 0, l.getD 7 0, l.getD 8 0, l.getD 9 0, l.getD 10 0, l.getD 11 0, g16 l 12, l.drop 14, 0)
theorem eparse_eq {l : List Int} (h : IsB l) (hl : l.length ≤ 1000000000) : eth_Parse.f l = some (eseg l) := by
  unfold eth_Parse.f eseg
  by_cases c1 : (l.length : Int) > 1600
  · rw [if_pos c1, if_pos c1]
  · rw [if_neg c1, if_neg c1]
    by_cases c2 : (l.length : Int) < 14
    · rw [if_pos c2, if_pos c2]
    · rw [if_neg c2, if_neg c2, clone_eq _ (by rw [List.length_drop]; omega), Option.bind_some, rd_nat l 12 12 rfl, rd_nat l 13 13 rfl, word16 (h.getD 12) (h.getD 13)]
      rfl
theorem reparse_eq {l : List Int} (h : IsB l) (hl : l.length ≤ 1000000000) : lychref1_Eth.f l = some (eseg l) := by
  unfold lychref1_Eth.f eseg
  by_cases c1 : (l.length : Int) > 1600
  · rw [if_pos c1, if_pos c1]
  · rw [if_neg c1, if_neg c1]
    by_cases c2 : (l.length : Int) < 14
    · rw [if_pos c2, if_pos c2]
    · have e12 := get16_eq h 12 (by omega) hl
      rw [show ((12 : Nat) : Int) = 12 from rfl] at e12
      have f1 := cut_eq l 14 l.length (by omega) (by omega) hl
      rw [show ((14 : Nat) : Int) = 14 from rfl, List.take_length] at f1
      rw [if_neg c2, if_neg c2, e12, Option.bind_some, f1, Option.bind_some]
      rfl
theorem eth_refl (a0 a1 a2 a3 a4 a5 a6 a7 a8 a9 a10 a11 t : Int) (l : List Int) : lychhelp_Eth.f a0 a1 a2 a3 a4 a5 a6 a7 a8 a9 a10 a11 t l a0 a1 a2 a3 a4 a5 a6 a7 a8 a9 a10 a11 t l = some true := by
  unfold lychhelp_Eth.f
  rw [if_pos (by simp), if_pos (by simp), if_pos rfl, bytes_refl]
/-- a frame's bytes -/
def ebytes (a0 a1 a2 a3 a4 a5 a6 a7 a8 a9 a10 a11 t : Int) (l : List Int) : List Int := [a0, a1, a2, a3, a4, a5] ++ ([a6, a7, a8, a9, a10, a11] ++ ([t / 256 % 256, t % 256] ++ l))
def eout (a0 a1 a2 a3 a4 a5 a6 a7 a8 a9 a10 a11 t : Int) (l : List Int) : List Int × Int := if (l.length : Int) > 1586 then ([], 23) else (ebytes a0 a1 a2 a3 a4 a5 a6 a7 a8 a9 a10 a11 t l, 0)
theorem cl0_step {k : Nat} {x0 x9 : List (List Int)} {x3 x10 x11 s i : Int} (h1 : x11 < x10) (h2 : 0 ≤ x11) (h3 : x11 < (x9.length : Int)) (hs : wrap64 (x3 + ((rd_L1 x9 x11).length : Int)) = s) (h4 : ¬ s < 0) (hi : wrap64 (x11 + 1) = i) : slices_Concat_byte_byte.l0 (k + 1) x0 x3 x9 x10 x11 = slices_Concat_byte_byte.l0 k x0 s x9 x10 i := by
  rw [slices_Concat_byte_byte.l0, if_pos h1, if_pos h2, if_pos h3, hs, if_neg h4, hi]
theorem cl1_step {k : Nat} {x6 : List Int} {x25 : List (List Int)} {x26 x27 i : Int} (h1 : x27 < x26) (h2 : 0 ≤ x27) (h3 : x27 < (x25.length : Int)) (h4 : x6.length + (rd_L1 x25 x27).length < 140737488355328) (hi : wrap64 (x27 + 1) = i) : slices_Concat_byte_byte.l1 (k + 1) x6 x25 x26 x27 = slices_Concat_byte_byte.l1 k (x6 ++ rd_L1 x25 x27) x25 x26 i := by
  rw [slices_Concat_byte_byte.l1, if_pos h1, if_pos h2, if_pos h3, if_pos h4, hi]
theorem cl0_end {k : Nat} {x0 x9 : List (List Int)} {x3 x10 x11 : Int} (h1 : ¬ x11 < x10) : slices_Concat_byte_byte.l0 (k + 1) x0 x3 x9 x10 x11 = (slices_Grow_byte_byte.f ([] : List Int) x3).bind fun t => slices_Concat_byte_byte.l1 k t x0 (x0.length : Int) 0 := by
  rw [slices_Concat_byte_byte.l0, if_neg h1]
theorem cl1_end {k : Nat} {x6 : List Int} {x25 : List (List Int)} {x26 x27 : Int} (h1 : ¬ x27 < x26) : slices_Concat_byte_byte.l1 (k + 1) x6 x25 x26 x27 = some x6 := by
  rw [slices_Concat_byte_byte.l1, if_neg h1]
theorem grow_eq {n : Int} (h0 : 0 ≤ n) (h1 : n < 70368744177664) : slices_Grow_byte_byte.f ([] : List Int) n = some [] := by
  unfold slices_Grow_byte_byte.f
  rw [if_pos h0, if_pos h1]
theorem concat4_eq (x y z u : List Int) (hx : x.length ≤ 1000000000) (hy : y.length ≤ 1000000000) (hz : z.length ≤ 1000000000) (hu : u.length ≤ 1000000000) (k : Nat) (hk : 11 ≤ k) : slices_Concat_byte_byte.f k [x, y, z, u] = some (x ++ (y ++ (z ++ u))) := by
  obtain ⟨k, rfl⟩ : ∃ j, k = j + 11 := ⟨k - 11, by omega⟩
  have hlen : (([x, y, z, u] : List (List Int)).length : Int) = 4 := rfl
  have s0 : wrap64 (0 + (x.length : Int)) = (x.length : Int) := by rw [wrap64_id (by omega) (by omega)]; omega
  have s1 : wrap64 ((x.length : Int) + (y.length : Int)) = (x.length : Int) + (y.length : Int) := wrap64_id (by omega) (by omega)
  have s2 : wrap64 ((x.length : Int) + (y.length : Int) + (z.length : Int)) = (x.length : Int) + (y.length : Int) + (z.length : Int) := wrap64_id (by omega) (by omega)
  have s3 : wrap64 ((x.length : Int) + (y.length : Int) + (z.length : Int) + (u.length : Int)) = (x.length : Int) + (y.length : Int) + (z.length : Int) + (u.length : Int) := wrap64_id (by omega) (by omega)
  unfold slices_Concat_byte_byte.f
  rw [hlen]
  refine (cl0_step (k := k + 10) (s := (x.length : Int)) (i := 1) (by omega) (by omega) (by rw [hlen]; omega) s0 (by omega) w01).trans ?_
  refine (cl0_step (k := k + 9) (s := (x.length : Int) + (y.length : Int)) (i := 2) (by omega) (by omega) (by rw [hlen]; omega) s1 (by omega) w12).trans ?_
  refine (cl0_step (k := k + 8) (s := (x.length : Int) + (y.length : Int) + (z.length : Int)) (i := 3) (by omega) (by omega) (by rw [hlen]; omega) s2 (by omega) w23).trans ?_
  refine (cl0_step (k := k + 7) (s := (x.length : Int) + (y.length : Int) + (z.length : Int) + (u.length : Int)) (i := 4) (by omega) (by omega) (by rw [hlen]; omega) s3 (by omega) w34).trans ?_
  refine (cl0_end (k := k + 6) (by omega)).trans ?_
  have h0 : (0 : Int) ≤ (x.length : Int) + (y.length : Int) + (z.length : Int) + (u.length : Int) := by omega
  have h1 : (x.length : Int) + (y.length : Int) + (z.length : Int) + (u.length : Int) < 70368744177664 := by omega
  rw [grow_eq h0 h1, Option.bind_some, hlen]
  have l1 : (([] : List Int) ++ x).length + y.length < 140737488355328 := by rw [List.nil_append]; omega
  have l2 : (([] : List Int) ++ x ++ y).length + z.length < 140737488355328 := by rw [List.nil_append, List.length_append]; omega
  have l3 : (([] : List Int) ++ x ++ y ++ z).length + u.length < 140737488355328 := by rw [List.nil_append, List.length_append, List.length_append]; omega
  refine (cl1_step (k := k + 5) (i := 1) (by omega) (by omega) (by rw [hlen]; omega) (show ([] : List Int).length + x.length < 140737488355328 by rw [List.length_nil]; omega) w01).trans ?_
  refine (cl1_step (k := k + 4) (i := 2) (by omega) (by omega) (by rw [hlen]; omega) l1 w12).trans ?_
  refine (cl1_step (k := k + 3) (i := 3) (by omega) (by omega) (by rw [hlen]; omega) l2 w23).trans ?_
  refine (cl1_step (k := k + 2) (i := 4) (by omega) (by omega) (by rw [hlen]; omega) l3 w34).trans ?_
  refine (cl1_end (k := k + 1) (by omega)).trans ?_
  show some (([] : List Int) ++ x ++ y ++ z ++ u) = some (x ++ (y ++ (z ++ u)))
  rw [List.nil_append, List.append_assoc, List.append_assoc]
theorem eput16_eq (l : List Int) (x : Int) (h : l.length ≤ 1000000000) : lychref1_Put16.f l x = some (l ++ [x / 256 % 256, x % 256]) := by
  unfold lychref1_Put16.f
  rw [Option.bind_some, if_pos (by simp; omega)]
section
variable {a0 a1 a2 a3 a4 a5 a6 a7 a8 a9 a10 a11 t : Int} {l : List Int}
theorem ebytes_eq (hl : l.length ≤ 1000000000) (k : Nat) (hk : 20 ≤ k) : eth_Bytes.f k a0 a1 a2 a3 a4 a5 a6 a7 a8 a9 a10 a11 t l = some (eout a0 a1 a2 a3 a4 a5 a6 a7 a8 a9 a10 a11 t l) := by
  unfold eth_Bytes.f eout
  by_cases c1 : (l.length : Int) > 1586
  · rw [if_pos c1, if_pos c1]
  · rw [if_neg c1, if_neg c1, concat4_eq _ _ _ _ (by simp) (by simp) (by simp) hl k (by omega), Option.bind_some]
    rfl
theorem rebytes_eq (hl : l.length ≤ 1000000000) : lychref1_EthBytes.f a0 a1 a2 a3 a4 a5 a6 a7 a8 a9 a10 a11 t l = some (eout a0 a1 a2 a3 a4 a5 a6 a7 a8 a9 a10 a11 t l) := by
  unfold lychref1_EthBytes.f eout
  by_cases c1 : (l.length : Int) > 1586
  · rw [if_pos c1, if_pos c1]
  · rw [if_neg c1, if_neg c1, eput16_eq _ _ (by simp), Option.bind_some, if_pos (by simp; omega)]
    rfl
theorem ebytes_length : (ebytes a0 a1 a2 a3 a4 a5 a6 a7 a8 a9 a10 a11 t l).length = 14 + l.length := by
  unfold ebytes
  simp only [List.length_append, List.length_cons, List.length_nil]
  omega
theorem eseg_bytes (ht : 0 ≤ t ∧ t ≤ 65535) (h : (l.length : Int) ≤ 1586) : eseg (ebytes a0 a1 a2 a3 a4 a5 a6 a7 a8 a9 a10 a11 t l) = (a0, a1, a2, a3, a4, a5, a6, a7, a8, a9, a10, a11, t, l, 0) := by
  have hL : (ebytes a0 a1 a2 a3 a4 a5 a6 a7 a8 a9 a10 a11 t l).length = 14 + l.length := ebytes_length
  have e12 : g16 (ebytes a0 a1 a2 a3 a4 a5 a6 a7 a8 a9 a10 a11 t l) 12 = t / 256 % 256 * 256 + t % 256 := rfl
  have et : t / 256 % 256 * 256 + t % 256 = t := by omega
  have ed : (ebytes a0 a1 a2 a3 a4 a5 a6 a7 a8 a9 a10 a11 t l).drop 14 = l := rfl
  unfold eseg
  rw [if_neg (by rw [hL]; omega), if_neg (by rw [hL]; omega), e12, et, ed]
  rfl
end
/-- what is read is written as it was -/
theorem ebytes_eseg : ∀ (l : List Int), IsB l → 14 ≤ l.length → ebytes (l.getD 0 0) (l.getD 1 0) (l.getD 2 0) (l.getD 3 0) (l.getD 4 0) (l.getD 5 0) (l.getD 6 0) (l.getD 7 0) (l.getD 8 0) (l.getD 9 0) (l.getD 10 0) (l.getD 11 0) (g16 l 12) (l.drop 14) = l
  | x0 :: x1 :: x2 :: x3 :: x4 :: x5 :: x6 :: x7 :: x8 :: x9 :: x10 :: x11 :: x12 :: x13 :: l, h, _ => by
    have h12 : 0 ≤ x12 ∧ x12 ≤ 255 := h _ (by simp)
    have h13 : 0 ≤ x13 ∧ x13 ≤ 255 := h _ (by simp)
    show [x0, x1, x2, x3, x4, x5] ++ ([x6, x7, x8, x9, x10, x11] ++ ([(x12 * 256 + x13) / 256 % 256, (x12 * 256 + x13) % 256] ++ l)) = _
    rw [show (x12 * 256 + x13) / 256 % 256 = x12 from by omega, show (x12 * 256 + x13) % 256 = x13 from by omega]
    rfl
  | [], _, h => by simp at h
  | [x0], _, h => by simp at h
  | [x0, x1], _, h => by simp at h
  | [x0, x1, x2], _, h => by simp at h
  | [x0, x1, x2, x3], _, h => by simp at h
  | [x0, x1, x2, x3, x4], _, h => by simp at h
  | [x0, x1, x2, x3, x4, x5], _, h => by simp at h
  | [x0, x1, x2, x3, x4, x5, x6], _, h => by simp at h
  | [x0, x1, x2, x3, x4, x5, x6, x7], _, h => by simp at h
  | [x0, x1, x2, x3, x4, x5, x6, x7, x8], _, h => by simp at h
  | [x0, x1, x2, x3, x4, x5, x6, x7, x8, x9], _, h => by simp at h
  | [x0, x1, x2, x3, x4, x5, x6, x7, x8, x9, x10], _, h => by simp at h
  | [x0, x1, x2, x3, x4, x5, x6, x7, x8, x9, x10, x11], _, h => by simp at h
  | [x0, x1, x2, x3, x4, x5, x6, x7, x8, x9, x10, x11, x12], _, h => by simp at h
end Go.Proofs.Ytnfgmcjgmccggaa.Pure
