/- Texts of this claim, merged: PBx2, PBx3, PBx4, PBx5, PBx7, PBx9, PBx10, FrLaid, FrTo, PBx34, FrKn, PBx28, PBx29, PBx30, PBx31, PBx32, PBx33, PBx40. -/
import Derived.Test.YtkmimamminddiaaZrb
import Derived.Test.YtkmimamminddiaaZrc
import Derived.Deep.Cut
import Derived.Deep.CutRange
import Derived.Deep.CutBlock
import Derived.Deep.WholeRow
set_option maxHeartbeats 40000000
set_option maxRecDepth 100000
namespace Go.Proofs.Ytkmimamminddiaa.PB
open Go.RowKit Go.Proofs.YtkmimamminddiaaW.PrintWords Go.Proofs.YtkmimamminddiaaW.PrintLast Go.Proofs.YtkmimamminddiaaW.PrintMore
attribute [local go_sem] max2_int min2_int max_two min_two max_three min_three max_four min_four   -- for this text's walks alone
set_option linter.unusedVariables false
set_option linter.unusedSimpArgs false
def slices_Grow_byte_byte.f (l0 : List Int) (a1 : Int) : Option (List Int) := if 0 ≤ a1 then (if a1 < 70368744177664 then some [] else none) else none
theorem slices_Grow_byte_byte.calls (A0 : Option Addr) (c0 : Nat) (l0 : List Int) (a1 : Int) (r : List Int) (w : World) (hr0 : Kd.C (Kd.int .u8) w A0 l0.length l0) (hc0 : l0.length ≤ c0) (h : slices_Grow_byte_byte.f l0 a1 = some r) (hA : A0 = none ∧ c0 = 0 := by exact ⟨rfl, rfl⟩) :
    Calls Try.prog 132 #[.slice A0 l0.length c0, .int .i64 a1] w fun e w' => ∃ v0_ : Value, e = .returned (v0_) ∧ Kd.R (Kd.int .u8) 5 w' w.heap.size (fun _ => True) v0_ r ∧ Below w.heap.size w w' := by
  unfold slices_Grow_byte_byte.f at h
  obtain ⟨rfl, rfl⟩ := hA
  have hl : l0 = [] := List.length_eq_zero_iff.1 (Nat.le_zero.1 hc0)
  subst hl
  by_cases c1 : 0 ≤ a1
  · rw [if_pos c1] at h
    by_cases c2 : a1 < 70368744177664
    · rw [if_pos c2] at h
      obtain rfl := Option.some.inj h
      clear h hr0 hc0
      have n1 : decide (a1 < 0) = false := decide_eq_false (by omega)
      have n2 : wrap64 (a1 - wrap64 (0 - 0)) = a1 := by unfold wrap64; omega
      have HB := Aside0.mk (Below.refl w.heap.size w)
      by_cases c3 : 0 < a1
      · have n3 : decide (0 < a1) = true := decide_eq_true c3
        obtain ⟨i0, hi0, _, _, _⟩ := info_parts info5
        have hN := Kd.R_nil (Kd.int .u8) 5 w w.heap.size (fun _ => True)
        have hcut0 := cut_to (P := Try.prog) 23 5 .i64 Try.underlying23 hi0 none 0 0 0 (Int.le_refl _) (Int.le_refl _) (Nat.le_refl _)
        replace hcut0 : ∀ W : World, (Instr.slice 23 (.slice none 0 0) none (some (.int .i64 0)) none).run Try.prog W = .ok (.slice none 0 0) W := hcut0
        go_enter Try.func132, Try.ntmps132
        go_wp2_with (first
         | ((with_reducible refine gate_builtin (b := .append) (xs := #[.tmp 20, .tmp 21]) rfl ?_); at_builtin; refine Kd.R_append_zeros (Kd.int .u8) (w0 := w) w.heap.size rfl (.tmp 20) (.tmp 21) 23 3 5 (.int .u8 0) 1 rfl Try.underlying23 Try.underlying3 info5 rfl (by decide) (by decide) (.slice none 0 0) ([] : List Int) 0 a1 (fun _ => True) rfl rfl rfl (fun _ _ => trivial) ?aO c1 ?aB (below_size ?aB) ?aL ?_; (case aO => first | exact hN | exact Kd.R_drew hN | exact Kd.R_drewN hN _); (case aB => first | exact Below.refl _ _ | exact below_drew1 (Below.refl _ _)); (case aL => simp; omega); intro v2 w2 ho hb hg hat; clear hg hat; obtain ⟨A2, c2_, e2, hlc, _⟩ := Kd.R_reads ho; subst e2; have HB2 := Aside0.mk hb; have HO2 := Aside0.mk ho; clear ho; have hcut1 := cut_to (P := Try.prog) 23 5 .i64 Try.underlying23 hi0 A2 (([] : List Int) ++ List.replicate a1.toNat 0).length c2_ 0 (Int.le_refl _) (by omega) hlc; clear hlc; clear hb))
        go_ret
        exact ⟨_, rfl, Kd.R_take (m := 0) HO2.out (Nat.zero_le _), HB2.out⟩
      · have n3 : decide (0 < a1) = false := decide_eq_false c3
        go_enter Try.func132, Try.ntmps132
        go_wp2
        go_ret
        exact ⟨_, rfl, Kd.R_nil _ _ _ _ _, Below.refl _ _⟩
    · rw [if_neg c2] at h
      cases h
  · rw [if_neg c1] at h
    cases h
mutual
def slices_Concat_byte_byte.l0 : Nat → List (List Int) → Int → List (List Int) → Int → Int → Option (List Int)
  | 0, _, _, _, _, _ => none
  | k + 1, x0, x3, x9, x10, x11 => if x11 < x10 then (if 0 ≤ x11 then (if x11 < (x9.length : Int) then (if (wrap64 (x3 + ((rd_L1 x9 x11).length : Int))) < 0 then (none) else (slices_Concat_byte_byte.l0 k x0 (wrap64 (x3 + ((rd_L1 x9 x11).length : Int))) x9 x10 (wrap64 (x11 + 1)))) else (none)) else (none)) else ((slices_Grow_byte_byte.f ([] : List Int) x3).bind fun t102 => (slices_Concat_byte_byte.l1 k t102 x0 (x0.length : Int) 0))
def slices_Concat_byte_byte.l1 : Nat → List Int → List (List Int) → Int → Int → Option (List Int)
  | 0, _, _, _, _ => none
  | k + 1, x6, x25, x26, x27 => if x27 < x26 then (if 0 ≤ x27 then (if x27 < (x25.length : Int) then (if x6.length + (rd_L1 x25 x27).length < 140737488355328 then (slices_Concat_byte_byte.l1 k (x6 ++ (rd_L1 x25 x27)) x25 x26 (wrap64 (x27 + 1))) else (none)) else (none)) else (none)) else (some x6)
end
def slices_Concat_byte_byte.f (k : Nat) (l0 : List (List Int)) : Option (List Int) := slices_Concat_byte_byte.l0 k l0 0 l0 (l0.length : Int) 0
theorem slices_Concat_byte_byte.calls (k : Nat) (A0 : Option Addr) (c0 : Nat) (l0 : List (List Int)) (r : List Int) (w : World) (hr0 : Kd.C (Kd.slice 5 (Kd.int .u8)) w A0 l0.length l0) (hc0 : l0.length ≤ c0) (h : slices_Concat_byte_byte.f k l0 = some r) :
    Calls Try.prog 127 #[.slice A0 l0.length c0] w fun e w' => ∃ v0_ : Value, e = .returned (v0_) ∧ Kd.R (Kd.int .u8) 5 w' w.heap.size (fun _ => True) v0_ r ∧ Below w.heap.size w w' := by
  have HR0 := Aside0.mk hr0
  have HC0 := Aside0.mk hc0
  clear hr0 hc0
  have HB := Aside0.mk (Below.refl w.heap.size w)
  have H : (slices_Concat_byte_byte.l0 k l0 0 l0 (l0.length : Int) 0) = some r := h
  clear h
  have H' := Aside0.mk H
  clear H
  go_enter Try.func127, Try.ntmps127
  go_wp2
  go_loopg [3, 11] k (fun kq v3 v11 w' => ∃ (x3_1 : Int) (x11_1 : Int), v3 = .int .i64 x3_1 ∧ v11 = .int .i64 x11_1 ∧ Aside0 (slices_Concat_byte_byte.l0 kq l0 x3_1 l0 (l0.length : Int) x11_1 = some r) ∧ Aside0 (kq ≤ k) ∧ Aside0 (Below w.heap.size w w'))
  case atStart => exact ⟨(0), (0), (by first | rfl | (simp; done) | (simp [*]; done)), (by first | rfl | (simp; done) | (simp [*]; done)), H', ⟨Nat.le_refl _⟩, ⟨bz HB⟩⟩
  case round =>
    clear H'
    obtain ⟨x3_1, x11_1, rfl, rfl, HA, HK1, HB⟩ := hrel
    cases gk with
    | zero => exact absurd HA.out (by simp [slices_Concat_byte_byte.l0])
    | succ k1 =>
      have H := HA.out
      clear HA
      simp only [slices_Concat_byte_byte.l0] at H
      by_cases c2 : x11_1 < (l0.length : Int)
      · rw [if_pos c2] at H
        have c2b0 : decide (x11_1 < (l0.length : Int)) = true := decide_eq_true c2
        clear c2
        by_cases c3 : 0 ≤ x11_1
        · rw [if_pos c3] at H
          have c3b0 : decide (0 ≤ x11_1) = true := decide_eq_true c3
          clear c3
          by_cases c4 : x11_1 < (l0.length : Int)
          · rw [if_pos c4] at H
            have c4b0 : decide (x11_1 < (l0.length : Int)) = true := decide_eq_true c4
            clear c4
            by_cases c5 : (wrap64 (x3_1 + ((rd_L1 l0 x11_1).length : Int))) < 0
            · rw [if_pos c5] at H
              exact absurd H (by simp)
            · rw [if_neg c5] at H
              have c5b0 : decide ((wrap64 (x3_1 + ((rd_L1 l0 x11_1).length : Int))) < 0) = false := decide_eq_false c5
              clear c5
              have H' := Aside0.mk H
              clear H
              have p101 : 0 ≤ (x11_1 : Int) := of_decide_eq_true (by first | (with_reducible assumption) | assumption)
              have q101 : x11_1 < (l0.length : Int) := of_decide_eq_true (by first | (with_reducible assumption) | assumption)
              obtain ⟨ad101, A101_0, c101_0, e101, hx101_0, hl101_0, hi101_0⟩ := at_L1 HR0.out x11_1 p101 q101
              cases e101
              replace hx101_0 := (HB.out.cell (World.block_lt_of_cell? w _ hx101_0)).trans hx101_0
              have HR101_0 := Aside0.mk hi101_0
              have HC101_0 := Aside0.mk hl101_0
              clear hi101_0 hl101_0
              replace p101 := eq_true p101
              replace q101 := eq_true q101
              go_wp2
              go_roundg k1
              case measure => have := HK1.out; omega
              case rel => exact ⟨(wrap64 (x3_1 + ((rd_L1 l0 x11_1).length : Int))), (wrap64 (x11_1 + 1)), (by first | rfl | (simp; done) | (simp [*]; done)), (by first | rfl | (simp; done) | (simp [*]; done)), H', ⟨by have := HK1.out; omega⟩, ⟨bz HB⟩⟩
          · rw [if_neg c4] at H
            exact absurd H (by simp)
        · rw [if_neg c3] at H
          exact absurd H (by simp)
      · rw [if_neg c2] at H
        have c2b0 : decide (x11_1 < (l0.length : Int)) = false := decide_eq_false c2
        clear c2
        replace H := Option.bind_eq_some_iff.mp H
        obtain ⟨t102, A60, H⟩ := H
        replace H : (slices_Concat_byte_byte.l1 k1 t102 l0 (l0.length : Int) 0) = some r := H
        have A6 := Aside0.mk A60
        clear A60
        have H' := Aside0.mk H
        clear H
        go_wp2_with (first | (go_at_call 132; (with_reducible show Calls _ _ #[.slice none 0 0, _] _ _); (refine (slices_Grow_byte_byte.calls _ _ ([] : List Int) x3_1 t102 _ ?side1 ?side2 A6.out).mono ?_); (case side1 => exact Kd.C_nil _ _); (case side2 => exact Nat.le_refl _); rintro e w7 ⟨v103, rfl, ho0, hb⟩; have n0_ := Aside0.mk (Kd.R_lower ho0 (below_size (bz HB))); have n1_ := Aside0.mk (below_step (bz HB) hb); clear HB; have HO104 := n0_; have HB := n1_; clear n0_ n1_; (try clear hb); (try clear hb2); (try clear hk); (try clear hi); (try clear ho0)))
        go_loopg [6, 27] k1 (fun kq v6 v27 w' => ∃ (x6_2 : List Int) (x27_2 : Int), v27 = .int .i64 x27_2 ∧ Aside0 (slices_Concat_byte_byte.l1 kq x6_2 l0 (l0.length : Int) x27_2 = some r) ∧ Aside0 (kq ≤ k1) ∧ Aside0 (Kd.R (Kd.int .u8) 5 w' w.heap.size (fun _ => True) v6 x6_2) ∧ Aside0 (Below w.heap.size w w'))
        case atStart => exact ⟨(t102), (0), (by first | rfl | (simp; done) | (simp [*]; done)), H', ⟨Nat.le_refl _⟩, ⟨Kd.rz HO104⟩, ⟨bz HB⟩⟩
        case round =>
          clear H'
          try clear c2
          try clear c2b0
          obtain ⟨x6_2, x27_2, rfl, HA, HK2, HO_6, HB⟩ := hrel
          cases gk with
          | zero => exact absurd HA.out (by simp [slices_Concat_byte_byte.l1])
          | succ k2 =>
            have H := HA.out
            clear HA
            simp only [slices_Concat_byte_byte.l1] at H
            by_cases c8 : x27_2 < (l0.length : Int)
            · rw [if_pos c8] at H
              have c8b0 : decide (x27_2 < (l0.length : Int)) = true := decide_eq_true c8
              clear c8
              by_cases c9 : 0 ≤ x27_2
              · rw [if_pos c9] at H
                have c9b0 : decide (0 ≤ x27_2) = true := decide_eq_true c9
                clear c9
                by_cases c10 : x27_2 < (l0.length : Int)
                · rw [if_pos c10] at H
                  have c10b0 : decide (x27_2 < (l0.length : Int)) = true := decide_eq_true c10
                  clear c10
                  by_cases c11 : x6_2.length + (rd_L1 l0 x27_2).length < 140737488355328
                  · rw [if_pos c11] at H
                    have LMc11 := Aside0.mk c11
                    clear c11
                    obtain ⟨y106, hy106⟩ : ∃ y_ : List Int, y_ = (x6_2 ++ (rd_L1 l0 x27_2)) := ⟨_, rfl⟩
                    replace H : (slices_Concat_byte_byte.l1 k2 y106 l0 (l0.length : Int) (wrap64 (x27_2 + 1))) = some r := by first | (rw [hy106]; with_reducible exact H) | (have H2_ := (Option.bind_some _ _).symm.trans H; rw [hy106]; with_reducible exact H2_) | (have H2_ := (Option.bind_some _ _).symm.trans H; with_reducible exact H2_) | with_reducible exact H | (rw [hy106]; exact H) | exact H
                    have Ny106 := Aside0.mk hy106
                    clear hy106
                    have H' := Aside0.mk H
                    clear H
                    have p105 : 0 ≤ (x27_2 : Int) := of_decide_eq_true (by first | (with_reducible assumption) | assumption)
                    have q105 : x27_2 < (l0.length : Int) := of_decide_eq_true (by first | (with_reducible assumption) | assumption)
                    obtain ⟨ad105, A105_0, c105_0, e105, hx105_0, hl105_0, hi105_0⟩ := at_L1 HR0.out x27_2 p105 q105
                    cases e105
                    replace hx105_0 := (HB.out.cell (World.block_lt_of_cell? w _ hx105_0)).trans hx105_0
                    have HR105_0 := Aside0.mk hi105_0
                    have HC105_0 := Aside0.mk hl105_0
                    clear hi105_0 hl105_0
                    replace p105 := eq_true p105
                    replace q105 := eq_true q105
                    go_wp2_with (first | ((with_reducible refine gate_builtin (b := .append) (xs := #[.tmp 31, .tmp 32]) rfl ?_); at_builtin; refine Kd.R_append_rows (Kd.int .u8) (w0 := w) w.heap.size rfl (.tmp 31) (.tmp 32) 23 5 (.int .u8 0) 1 rfl Try.underlying23 info5 rfl (by decide) (by omega) u6 x6_2 (rd_L1 l0 x27_2) _ _ _ (fun _ => True) (fun _ => False) rfl rfl ?aO ?aR (fun _ _ h => h) (fun _ h => h.elim) ?aF ?aB ?aS ?aL ?_; (case aR => exact Kd.C_below HR105_0.out (bz HB)); (case aB => exact bz HB); (case aF => exact (fun _ _ => trivial)); (case aO => exact (Kd.rz HO_6)); (case aS => exact (below_size (bz HB))); (case aL => have := LMc11.out; omega); intro v107 w12 ho hb hg hat; rw [← Ny106.out] at ho; have n0_ := Aside0.mk (hb); have n1_ := Aside0.mk (ho); clear HB; clear HO_6; have HB := n0_; have HO108 := n1_; clear n0_ n1_; clear ho hb hg hat))
                    go_roundg k2
                    case measure => have := HK1.out; have := HK2.out; omega
                    case rel => exact ⟨(y106), (wrap64 (x27_2 + 1)), (by first | rfl | (simp; done) | (simp [*]; done)), H', ⟨by have := HK1.out; have := HK2.out; omega⟩, ⟨Kd.rz HO108⟩, ⟨bz HB⟩⟩
                  · rw [if_neg c11] at H
                    exact absurd H (by simp)
                · rw [if_neg c10] at H
                  exact absurd H (by simp)
              · rw [if_neg c9] at H
                exact absurd H (by simp)
            · rw [if_neg c8] at H
              have c8b0 : decide (x27_2 < (l0.length : Int)) = false := decide_eq_false c8
              clear c8
              obtain rfl := Option.some.inj H
              go_wp2
              go_ret
              exact ⟨_, by first | rfl | (simp [errW_none, errW_some] <;> rfl) | (simp [*, errW_none, errW_some] <;> rfl), by (with_reducible repeat (first | apply Kd.R_alloc | apply Kd.R_drewN | apply Kd.R_drew)); exact HO_6.out, bz HB⟩
theorem eth_Bytes.lies {W : World} {g o : Nat} {t : TypeId} {cs : Array Value} {x0 x1 x2 x3 x4 x5 : Int} (h : W.heap[g]? = some (.cells cs t (0, 0))) (h0 : cs[o]? = some (.int .u8 x0)) (h1 : cs[o + 1]? = some (.int .u8 x1)) (h2 : cs[o + 2]? = some (.int .u8 x2)) (h3 : cs[o + 3]? = some (.int .u8 x3)) (h4 : cs[o + 4]? = some (.int .u8 x4)) (h5 : cs[o + 5]? = some (.int .u8 x5)) :
    Kd.C (Kd.int .u8) W (some ⟨g, o, none⟩) 6 [x0, x1, x2, x3, x4, x5] := by
  refine Kd.C_of_reads (enc := Value.int .u8) (d := (0 : Int)) (h1 := fun _ => rfl) ⟨rfl, by omega, fun _ => ⟨_, rfl, fun j hj => ?_⟩⟩
  have e : ∀ j, (⟨g, o, none⟩ : Addr).add j = ⟨g, o + j, none⟩ := fun j => by unfold Addr.add; split <;> simp_all
  rw [e, blk_cell h]
  match j, hj with
  | 0, _ => exact h0
  | 1, _ => exact h1
  | 2, _ => exact h2
  | 3, _ => exact h3
  | 4, _ => exact h4
  | 5, _ => exact h5
theorem eth_Bytes.rows {W : World} {g : Nat} {t : TypeId} {A0 A1 A2 A3 : Option Addr} {c0 c1 c2 c3 : Nat} {l0 l1 l2 l3 : List Int} (h : W.heap[g]? = some (.cells #[.slice A0 l0.length c0, .slice A1 l1.length c1, .slice A2 l2.length c2, .slice A3 l3.length c3] t (0, 0)))
    (k0 : l0.length ≤ c0) (k1 : l1.length ≤ c1) (k2 : l2.length ≤ c2) (k3 : l3.length ≤ c3) (h0 : Kd.C (Kd.int .u8) W A0 l0.length l0) (h1 : Kd.C (Kd.int .u8) W A1 l1.length l1) (h2 : Kd.C (Kd.int .u8) W A2 l2.length l2) (h3 : Kd.C (Kd.int .u8) W A3 l3.length l3) :
    Kd.C (Kd.slice 5 (Kd.int .u8)) W (some ⟨g, 0, none⟩) 4 [l0, l1, l2, l3] := by
  refine ⟨rfl, by omega, fun _ => ⟨_, rfl, fun j p hp => ?_⟩⟩
  have e : ∀ j, (⟨g, 0, none⟩ : Addr).add j = ⟨g, j, none⟩ := fun j => by unfold Addr.add; split <;> simp_all
  have one : ∀ (v : Value) (j : Nat), W.cell? ⟨g, j, none⟩ = some v → ∀ i u, [v][i]? = some u → W.cell? ((⟨g, 0, none⟩ : Addr).add (j * 1 + i)) = some u := fun v j hc i u hu => by
    match i, hu with
    | 0, hu => cases hu; rw [e, Nat.mul_one]; exact hc
    | i + 1, hu => simp at hu
  match j, hp with
  | 0, hp => cases hp; exact ⟨_, rfl, ⟨A0, c0, rfl, k0, h0⟩, one _ 0 ((blk_cell h 0).trans rfl)⟩
  | 1, hp => cases hp; exact ⟨_, rfl, ⟨A1, c1, rfl, k1, h1⟩, one _ 1 ((blk_cell h 1).trans rfl)⟩
  | 2, hp => cases hp; exact ⟨_, rfl, ⟨A2, c2, rfl, k2, h2⟩, one _ 2 ((blk_cell h 2).trans rfl)⟩
  | 3, hp => cases hp; exact ⟨_, rfl, ⟨A3, c3, rfl, k3, h3⟩, one _ 3 ((blk_cell h 3).trans rfl)⟩
  | j + 4, hp => simp at hp
theorem eth_Bytes.two {W : World} {g : Nat} {t : TypeId} {x0 x1 : Int} (h : W.heap[g]? = some (.cells #[.int .u8 x0, .int .u8 x1] t (0, 0))) : Kd.C (Kd.int .u8) W (some ⟨g, 0, none⟩) 2 [x0, x1] := by
  refine Kd.C_of_reads (enc := Value.int .u8) (d := (0 : Int)) (h1 := fun _ => rfl) ⟨rfl, by omega, fun _ => ⟨_, rfl, fun j hj => ?_⟩⟩
  have e : ∀ j, (⟨g, 0, none⟩ : Addr).add j = ⟨g, j, none⟩ := fun j => by unfold Addr.add; split <;> simp_all
  rw [e, blk_cell h]
  match j, hj with
  | 0, _ => rfl
  | 1, _ => rfl
def eth_Bytes.T3 : Bool × List (List Nat × List Nat) := (true, [([], []), ([0], [0]), ([], []), ([2], [2]), ([], []), ([4], [4]), ([5], [5]), ([6], [6]), ([], []), ([8], [8]), ([9], [9]), ([7, 10], [7, 10]), ([], []), ([12], [12]), ([1, 3, 11, 13], [1, 3, 11, 13]), ([14], [14]), ([15, 15, 0, 1, 2, 3, 4, 5, 6, 7, 8, 9, 10, 11, 12, 13, 14, 15], [15]), ([16, 0, 1, 2, 3, 4, 5, 6, 7, 8, 9, 10, 11, 12, 13, 14, 15, 16], [])])
def eth_Bytes.B3 : List Nat := [0, 1, 0, 4, 0, 16, 48, 112, 0, 256, 768, 2032, 0, 4096, 16383, 32767, 65535, 131071]
theorem eth_Bytes.tab3 : rtab .any (opsOf Try.f150 3) = eth_Bytes.T3 := by kernel_rfl
theorem eth_Bytes.bits3 : waitsOk eth_Bytes.T3.2 eth_Bytes.B3 = true := by kernel_rfl
def eth_Bytes.f (k : Nat) (a0_0 : Int) (a0_1 : Int) (a0_2 : Int) (a0_3 : Int) (a0_4 : Int) (a0_5 : Int) (a0_6 : Int) (a0_7 : Int) (a0_8 : Int) (a0_9 : Int) (a0_10 : Int) (a0_11 : Int) (a0_12 : Int) (l0_13 : List Int) : Option (List Int × Int) := if (l0_13.length : Int) > 1586 then some ([], 23) else (slices_Concat_byte_byte.f k [[a0_0, a0_1, a0_2, a0_3, a0_4, a0_5], [a0_6, a0_7, a0_8, a0_9, a0_10, a0_11], [(a0_12 / 256) % 256, a0_12 % 256], l0_13]).bind fun b => some (b, 0)
theorem eth_Bytes.calls (k : Nat) (a0_0 : Int) (a0_1 : Int) (a0_2 : Int) (a0_3 : Int) (a0_4 : Int) (a0_5 : Int) (a0_6 : Int) (a0_7 : Int) (a0_8 : Int) (a0_9 : Int) (a0_10 : Int) (a0_11 : Int) (a0_12 : Int) (A0_13 : Option Addr) (c0_13 : Nat) (l0_13 : List Int) (r1 : List Int) (r2 : Int) (w : World) (hr0_13 : Kd.C (Kd.int .u8) w A0_13 l0_13.length l0_13) (hc0_13 : l0_13.length ≤ c0_13) (h : eth_Bytes.f k a0_0 a0_1 a0_2 a0_3 a0_4 a0_5 a0_6 a0_7 a0_8 a0_9 a0_10 a0_11 a0_12 l0_13 = some (r1, r2)) :
    Calls Try.prog 150 #[.agg #[.int .u8 a0_0, .int .u8 a0_1, .int .u8 a0_2, .int .u8 a0_3, .int .u8 a0_4, .int .u8 a0_5, .int .u8 a0_6, .int .u8 a0_7, .int .u8 a0_8, .int .u8 a0_9, .int .u8 a0_10, .int .u8 a0_11, .int .u16 a0_12, .slice A0_13 l0_13.length c0_13]] w fun e w' => ∃ v0_ : Value, e = .returned (.tuple #[v0_, .int .i64 r2]) ∧ Kd.R (Kd.int .u8) 5 w' w.heap.size (fun _ => True) v0_ r1 ∧ Below w.heap.size w w' := by
  have hu28 := Try.underlying58
  have HR0 := Aside0.mk hr0_13
  have HC0 := Aside0.mk hc0_13
  clear hr0_13 hc0_13
  have HB := Aside0.mk (Below.refl w.heap.size w)
  unfold eth_Bytes.f at h
  by_cases c1 : (l0_13.length : Int) > 1586
  · rw [if_pos c1] at h
    simp only [Option.some.injEq, Prod.mk.injEq] at h
    obtain ⟨rfl, rfl⟩ := h
    have c1b : decide (1586 < (l0_13.length : Int)) = true := decide_eq_true c1
    clear c1
    go_enter Try.func150, Try.ntmps150
    go_upto_region 1 with (first | ((with_reducible refine gate_dst (N := 1) rfl ?_); refine box_event ?hg (N := 1) ?hd (cs := #[.int .u8 a0_0, .int .u8 a0_1, .int .u8 a0_2, .int .u8 a0_3, .int .u8 a0_4, .int .u8 a0_5, .int .u8 a0_6, .int .u8 a0_7, .int .u8 a0_8, .int .u8 a0_9, .int .u8 a0_10, .int .u8 a0_11, .int .u16 a0_12, .slice A0_13 l0_13.length c0_13]) (t := 58) ?hr ?_; (case hd => rfl); (case hg => rfl); (case hr => first | (go_simp; done) | (go_simp; rfl)); intro gp hg w1 hbox hb; have n0_ := Aside0.mk (below_step (bz HB) hb); have HP := Aside0.mk hbox; have GP := Aside0.mk ((by rw [hg]; exact (below_size (bz HB))) : w.heap.size ≤ gp); clear HB; have HB := n0_; clear n0_ hb hbox hg))
    have hp12 := cz HP.out 12 rfl
    have hp13 := cz HP.out 13 rfl
    go_wp2
    go_ret2
    exact ⟨_, rfl, Kd.R_nil _ _ _ _ _, bz HB⟩
  · rw [if_neg c1] at h
    have c1b : decide (1586 < (l0_13.length : Int)) = false := decide_eq_false c1
    obtain ⟨b, hb, h⟩ := Option.bind_eq_some_iff.mp h
    have A1 := Aside0.mk hb
    simp only [Option.some.injEq, Prod.mk.injEq] at h
    obtain ⟨rfl, rfl⟩ := h
    clear c1 hb
    go_enter Try.func150, Try.ntmps150
    go_upto_region 1 with (first | ((with_reducible refine gate_dst (N := 1) rfl ?_); refine box_event ?hg (N := 1) ?hd (cs := #[.int .u8 a0_0, .int .u8 a0_1, .int .u8 a0_2, .int .u8 a0_3, .int .u8 a0_4, .int .u8 a0_5, .int .u8 a0_6, .int .u8 a0_7, .int .u8 a0_8, .int .u8 a0_9, .int .u8 a0_10, .int .u8 a0_11, .int .u16 a0_12, .slice A0_13 l0_13.length c0_13]) (t := 58) ?hr ?_; (case hd => rfl); (case hg => rfl); (case hr => first | (go_simp; done) | (go_simp; rfl)); intro gp hg w1 hbox hb; have n0_ := Aside0.mk (below_step (bz HB) hb); have HP := Aside0.mk hbox; have GP := Aside0.mk ((by rw [hg]; exact (below_size (bz HB))) : w.heap.size ≤ gp); clear HB; have HB := n0_; clear n0_ hb hbox hg))
    have hp12 := cz HP.out 12 rfl
    have hp13 := cz HP.out 13 rfl
    go_upto_region 3 with (fail)
    clear hp12 hp13
    refine start_ (n := 18) (S := fun w' => w'.cell? ⟨gp, 12, none⟩ = some (.int .u16 a0_12) ∧ w'.cell? ⟨gp, 13, none⟩ = some (.slice A0_13 l0_13.length c0_13)) (ds := []) #[false, false, false, false, false, false, false, false, false, false, false, false, false, false, false, false, false, false] (by kernel_rfl) rfl rfl ⟨cz HP.out 12 rfl, cz HP.out 13 rfl⟩ (fun hHeld => ?_)
    refine with_tabW eth_Bytes.tab3 eth_Bytes.bits3 (fun HT_ HW_ => ?_)
    have n0_ := Aside0.mk (blk_drew HP.out)
    have n1_ := Aside0.mk (below_drew1 HB.out)
    clear HP HB
    have HP := n0_
    have HB := n1_
    clear n0_ n1_
    generalize w1.drew = w2 at HP HB hHeld ⊢
    refine pz 0 8 HT_ ?_
    refine pz 1 9 HT_ ?_
    refine pz 2 10 HT_ ?_
    refine pz 3 11 HT_ ?_
    refine pz 4 12 HT_ ?_
    refine take_ (i := 5) (N := some 13) (v := ?_) (a' := ?_) #[true, true, true, true, true, true, false, false, false, false, false, false, false, false, false, false, false, false] rfl rfl (take_ofW HT_.out HW_.out (by kernel_rfl)) (fun _ _ _ h => h) (Or.inl ⟨by rfl, ?_⟩) hHeld ?_ ?_
    rotate_left
    · rintro w' ⟨s0, s1⟩
      go_simp
      with_reducible rfl
    rotate_left
    · simp only [ps_]
      rfl
    refine pz 6 14 HT_ ?_
    refine pz 7 15 HT_ ?_
    refine pz 8 16 HT_ ?_
    refine take_ (i := 9) (N := some 17) (v := ?_) (a' := ?_) #[true, true, true, true, true, true, true, true, true, true, false, false, false, false, false, false, false, false] rfl rfl (take_ofW HT_.out HW_.out (by kernel_rfl)) (fun _ _ _ h => h) (Or.inl ⟨by rfl, ?_⟩) hHeld ?_ ?_
    rotate_left
    · rintro w' ⟨s0, s1⟩
      go_simp
      with_reducible rfl
    rotate_left
    · simp only [ps_]
      rfl
    refine pz 10 18 HT_ ?_
    refine pz 12 20 HT_ ?_
    refine take_ (i := 13) (N := some 21) (v := ?_) (a' := ?_) #[true, true, true, true, true, true, true, true, true, true, true, false, true, true, false, false, false, false] rfl rfl (take_ofW HT_.out HW_.out (by kernel_rfl)) (fun _ _ _ h => h) (Or.inl ⟨by rfl, ?_⟩) hHeld ?_ ?_
    rotate_left
    · rintro w' ⟨s0, s1⟩
      go_simp
      with_reducible rfl
    rotate_left
    · simp only [ps_]
      rfl
    refine oz 11 (some 19) HT_ (fun K hK => ?_)
    refine value_ (v := .slice (some ⟨w2.heap.size, 0, none⟩) 2 2) (w1 := w2.alloc (.cells #[.int .u8 ((a0_12 / 256) % 256), .int .u8 (a0_12 % 256)] 5)) (by rfl) rfl ?_ ?_
    · first | (go_simp; done) | (go_simp; simp only [IntKind.wrap_u8, IntKind.wrap_u16, IntKind.wrap_u32]; done) | (go_simp; rfl)
    have n0_ := Aside0.mk (blk_alloc HP.out (.cells #[.int .u8 ((a0_12 / 256) % 256), .int .u8 (a0_12 % 256)] 5))
    have n1_ := Aside0.mk (below_alloc HB.out (.cells #[.int .u8 ((a0_12 / 256) % 256), .int .u8 (a0_12 % 256)] 5))
    have HN := Aside0.mk (blk_new w2 (.cells #[.int .u8 ((a0_12 / 256) % 256), .int .u8 (a0_12 % 256)] 5))
    clear HP HB
    have HP := n0_
    have HB := n1_
    clear n0_ n1_
    refine hK.out _ _ ⟨cz HP.out 12 rfl, cz HP.out 13 rfl⟩ (fun hHeld => ?_)
    clear hK K
    refine nz 19 ?_
    generalize w2.alloc (.cells #[.int .u8 ((a0_12 / 256) % 256), .int .u8 (a0_12 % 256)] 5) = w3 at HP HB HN hHeld ⊢
    refine oz 14 (some 22) HT_ (fun K hK => ?_)
    refine value_ (v := .slice (some ⟨w3.heap.size, 0, none⟩) 4 4) (w1 := w3.alloc (.cells #[.slice (some ⟨gp, 0, none⟩) 6 6, .slice (some ⟨gp, 6, none⟩) 6 6, .slice (some ⟨w2.heap.size, 0, none⟩) 2 2, .slice A0_13 l0_13.length c0_13] 23)) (by rfl) rfl ?_ ?_
    · first | (go_simp; done) | (go_simp; rfl)
    have n0_ := Aside0.mk (blk_alloc HP.out (.cells #[.slice (some ⟨gp, 0, none⟩) 6 6, .slice (some ⟨gp, 6, none⟩) 6 6, .slice (some ⟨w2.heap.size, 0, none⟩) 2 2, .slice A0_13 l0_13.length c0_13] 23))
    have n1_ := Aside0.mk (below_alloc HB.out (.cells #[.slice (some ⟨gp, 0, none⟩) 6 6, .slice (some ⟨gp, 6, none⟩) 6 6, .slice (some ⟨w2.heap.size, 0, none⟩) 2 2, .slice A0_13 l0_13.length c0_13] 23))
    have n2_ := Aside0.mk (blk_alloc HN.out (.cells #[.slice (some ⟨gp, 0, none⟩) 6 6, .slice (some ⟨gp, 6, none⟩) 6 6, .slice (some ⟨w2.heap.size, 0, none⟩) 2 2, .slice A0_13 l0_13.length c0_13] 23))
    have HQ := Aside0.mk (blk_new w3 (.cells #[.slice (some ⟨gp, 0, none⟩) 6 6, .slice (some ⟨gp, 6, none⟩) 6 6, .slice (some ⟨w2.heap.size, 0, none⟩) 2 2, .slice A0_13 l0_13.length c0_13] 23))
    clear HP HB HN
    have HP := n0_
    have HB := n1_
    have HN := n2_
    clear n0_ n1_ n2_
    refine hK.out _ _ ⟨cz HP.out 12 rfl, cz HP.out 13 rfl⟩ (fun hHeld => ?_)
    clear hK K
    refine nz 22 ?_
    generalize w3.alloc (.cells #[.slice (some ⟨gp, 0, none⟩) 6 6, .slice (some ⟨gp, 6, none⟩) 6 6, .slice (some ⟨w2.heap.size, 0, none⟩) 2 2, .slice A0_13 l0_13.length c0_13] 23) = w4 at HP HB HN HQ hHeld ⊢
    refine oz 15 (some 23) HT_ (fun K hK => ?_)
    refine goes_ Try.func127 (by kernel_rfl) rfl #[.slice (some ⟨w3.heap.size, 0, none⟩) 4 4] (by rfl) rfl rfl (by first | rfl | (go_simp; done)) ?_
    refine (slices_Concat_byte_byte.calls k _ 4 [[a0_0, a0_1, a0_2, a0_3, a0_4, a0_5], [a0_6, a0_7, a0_8, a0_9, a0_10, a0_11], [(a0_12 / 256) % 256, a0_12 % 256], l0_13] b _ (eth_Bytes.rows HQ.out (Nat.le_refl _) (Nat.le_refl _) (Nat.le_refl _) HC0.out (eth_Bytes.lies (o := 0) HP.out rfl rfl rfl rfl rfl rfl) (eth_Bytes.lies (o := 6) HP.out rfl rfl rfl rfl rfl rfl) (eth_Bytes.two HN.out) (Kd.C_below HR0.out HB.out)) (Nat.le_refl _) A1.out).mono ?_
    rintro e w5 ⟨v1, rfl, ho, hb⟩
    refine ⟨_, rfl, ?_⟩
    have HO := Aside0.mk (Kd.R_lower ho (below_size HB.out))
    have n0_ := Aside0.mk (blk_below HP.out hb)
    have n1_ := Aside0.mk (below_step HB.out hb)
    clear HP HB HN HQ ho hb
    have HP := n0_
    have HB := n1_
    clear n0_ n1_
    refine hK.out _ _ ⟨cz HP.out 12 rfl, cz HP.out 13 rfl⟩ (fun hHeld => ?_)
    clear hK K
    refine nz 23 ?_
    refine pz 16 2 HT_ ?_
    refine pz 17 3 HT_ ?_
    refine dz HT_ ?_
    (try go_wp2)
    go_ret2
    exact ⟨_, rfl, HO.out, HB.out⟩
def frames_ethernet_bytes.f (k : Nat) (a0_0 : Int) (a0_1 : Int) (a0_2 : Int) (a0_3 : Int) (a0_4 : Int) (a0_5 : Int) (a0_6 : Int) (a0_7 : Int) (a0_8 : Int) (a0_9 : Int) (a0_10 : Int) (a0_11 : Int) (a0_12 : Int) (l0_13 : List Int) (l1 : List Int) : Option (List Int × Int) := (eth_Bytes.f k a0_0 a0_1 a0_2 a0_3 a0_4 a0_5 a0_6 a0_7 a0_8 a0_9 a0_10 a0_11 a0_12 l1).bind fun bt110 => (some (bt110.1, bt110.2))
theorem frames_ethernet_bytes.calls (k : Nat) (a0_0 : Int) (a0_1 : Int) (a0_2 : Int) (a0_3 : Int) (a0_4 : Int) (a0_5 : Int) (a0_6 : Int) (a0_7 : Int) (a0_8 : Int) (a0_9 : Int) (a0_10 : Int) (a0_11 : Int) (a0_12 : Int) (A0_13 : Option Addr) (c0_13 : Nat) (l0_13 : List Int) (A1 : Option Addr) (c1 : Nat) (l1 : List Int) (r1 : List Int) (r2 : Int) (w : World) (hr0_13 : Kd.C (Kd.int .u8) w A0_13 l0_13.length l0_13) (hc0_13 : l0_13.length ≤ c0_13) (hr1 : Kd.C (Kd.int .u8) w A1 l1.length l1) (hc1 : l1.length ≤ c1) (h : frames_ethernet_bytes.f k a0_0 a0_1 a0_2 a0_3 a0_4 a0_5 a0_6 a0_7 a0_8 a0_9 a0_10 a0_11 a0_12 l0_13 l1 = some (r1, r2)) :
  Calls Try.prog 149 #[.agg #[.int .u8 a0_0, .int .u8 a0_1, .int .u8 a0_2, .int .u8 a0_3, .int .u8 a0_4, .int .u8 a0_5, .int .u8 a0_6, .int .u8 a0_7, .int .u8 a0_8, .int .u8 a0_9, .int .u8 a0_10, .int .u8 a0_11, .int .u16 a0_12, .slice A0_13 l0_13.length c0_13], .slice A1 l1.length c1] w fun e w' => ∃ v0_ : Value, e = .returned (.tuple #[v0_, .int .i64 r2]) ∧ Kd.R (Kd.int .u8) 5 w' w.heap.size (fun _ => True) v0_ r1 ∧ Below w.heap.size w w' := by
 have hu116 := Try.underlying116
 have hu58 := Try.underlying58
 have HR0_13 := Aside0.mk hr0_13
 have HC0_13 := Aside0.mk hc0_13
 clear hr0_13 hc0_13
 have HR1 := Aside0.mk hr1
 have HC1 := Aside0.mk hc1
 clear hr1 hc1
 have HB := Aside0.mk (Below.refl w.heap.size w)
 have H : ((eth_Bytes.f k a0_0 a0_1 a0_2 a0_3 a0_4 a0_5 a0_6 a0_7 a0_8 a0_9 a0_10 a0_11 a0_12 l1).bind fun bt110 => (some (bt110.1, bt110.2))) = some (r1, r2) := h
 clear h
 replace H := Option.bind_eq_some_iff.mp H
 obtain ⟨⟨t110, t113⟩, A30, H⟩ := H
 replace H : (some (t110, t113)) = some (r1, r2) := H
 have A3 := Aside0.mk A30
 clear A30
 simp only [Option.some.injEq, Prod.mk.injEq] at H
 obtain ⟨rfl, rfl⟩ := H
 go_enter Try.func149, Try.ntmps149
 go_wp2_with (first | ((with_reducible refine gate_dst (N := 2) rfl ?_); refine box_event ?hg (N := 2) ?hd (cs := #[.int .u8 a0_0, .int .u8 a0_1, .int .u8 a0_2, .int .u8 a0_3, .int .u8 a0_4, .int .u8 a0_5, .int .u8 a0_6, .int .u8 a0_7, .int .u8 a0_8, .int .u8 a0_9, .int .u8 a0_10, .int .u8 a0_11, .int .u16 a0_12, .slice A0_13 l0_13.length c0_13]) (t := 116) ?hr ?_; (case hd => rfl); (case hg => rfl); (case hr => first | (go_simp; done) | (go_simp; rfl)); intro gb109 hg w4 hbox hb; have n0_ := Aside0.mk (below_step (by repeat (first | exact HB.out | apply below_alloc | apply pw_below_drewN | apply below_drew1)) hb); have n1_ := Aside0.mk (hbox); have n2_ := Aside0.mk ((by rw [hg]; exact (below_size (by repeat (first | exact HB.out | apply below_alloc | apply pw_below_drewN | apply below_drew1))) : w.heap.size ≤ gb109)); have n3_ := Aside0.mk ((by rw [hg]; exact (below_size (by repeat (first | exact HB.out | apply below_alloc | apply pw_below_drewN | apply below_drew1))) : w.heap.size ≤ gb109)); clear HB; have HB := n0_; have BK109 := n1_; have GW109 := n2_; have GE109 := n3_; clear n0_ n1_ n2_ n3_; clear hb hbox hg; have hcz5_0 : w4.cell? ⟨gb109, 0, none⟩ = some (.int .u8 a0_0) := (blk_cell BK109.out 0).trans rfl; have hcz5_1 : w4.cell? ⟨gb109, 1, none⟩ = some (.int .u8 a0_1) := (blk_cell BK109.out 1).trans rfl; have hcz5_2 : w4.cell? ⟨gb109, 2, none⟩ = some (.int .u8 a0_2) := (blk_cell BK109.out 2).trans rfl; have hcz5_3 : w4.cell? ⟨gb109, 3, none⟩ = some (.int .u8 a0_3) := (blk_cell BK109.out 3).trans rfl; have hcz5_4 : w4.cell? ⟨gb109, 4, none⟩ = some (.int .u8 a0_4) := (blk_cell BK109.out 4).trans rfl; have hcz5_5 : w4.cell? ⟨gb109, 5, none⟩ = some (.int .u8 a0_5) := (blk_cell BK109.out 5).trans rfl; have hcz5_6 : w4.cell? ⟨gb109, 6, none⟩ = some (.int .u8 a0_6) := (blk_cell BK109.out 6).trans rfl; have hcz5_7 : w4.cell? ⟨gb109, 7, none⟩ = some (.int .u8 a0_7) := (blk_cell BK109.out 7).trans rfl; have hcz5_8 : w4.cell? ⟨gb109, 8, none⟩ = some (.int .u8 a0_8) := (blk_cell BK109.out 8).trans rfl; have hcz5_9 : w4.cell? ⟨gb109, 9, none⟩ = some (.int .u8 a0_9) := (blk_cell BK109.out 9).trans rfl; have hcz5_10 : w4.cell? ⟨gb109, 10, none⟩ = some (.int .u8 a0_10) := (blk_cell BK109.out 10).trans rfl; have hcz5_11 : w4.cell? ⟨gb109, 11, none⟩ = some (.int .u8 a0_11) := (blk_cell BK109.out 11).trans rfl; have hcz5_12 : w4.cell? ⟨gb109, 12, none⟩ = some (.int .u16 a0_12) := (blk_cell BK109.out 12).trans rfl; have hcz5_13 : w4.cell? ⟨gb109, 13, none⟩ = some (.slice A0_13 l0_13.length c0_13) := (blk_cell BK109.out 13).trans rfl; have hfz5_0 := blk_frozen BK109.out 0; have hfz5_1 := blk_frozen BK109.out 1; have hfz5_2 := blk_frozen BK109.out 2; have hfz5_3 := blk_frozen BK109.out 3; have hfz5_4 := blk_frozen BK109.out 4; have hfz5_5 := blk_frozen BK109.out 5; have hfz5_6 := blk_frozen BK109.out 6; have hfz5_7 := blk_frozen BK109.out 7; have hfz5_8 := blk_frozen BK109.out 8; have hfz5_9 := blk_frozen BK109.out 9; have hfz5_10 := blk_frozen BK109.out 10; have hfz5_11 := blk_frozen BK109.out 11; have hfz5_12 := blk_frozen BK109.out 12; have hfz5_13 := blk_frozen BK109.out 13) | ((with_reducible refine gate_callee (f := 150) rfl ?_); refine goesL_ (some 11) rfl rfl Try.func150 (by kernel_rfl) rfl #[.agg #[.int .u8 a0_0, .int .u8 a0_1, .int .u8 a0_2, .int .u8 a0_3, .int .u8 a0_4, .int .u8 a0_5, .int .u8 a0_6, .int .u8 a0_7, .int .u8 a0_8, .int .u8 a0_9, .int .u8 a0_10, .int .u8 a0_11, .int .u16 a0_12, .slice A1 l1.length c1]] rfl (by (try simp only [List.map_toArray, List.map_cons, List.map_nil]); first | done | rfl | (simp only [List.length_drop, List.length_take]; rfl) | (go_simp; done) | (simp [Act.eval, IntKind.signed]; done) | (simp [Act.eval, IntKind.signed]; rfl)) ?_; (with_reducible refine (eth_Bytes.calls k a0_0 a0_1 a0_2 a0_3 a0_4 a0_5 a0_6 a0_7 a0_8 a0_9 a0_10 a0_11 a0_12 _ _ l1 t110 t113 _ ?side1 ?side2 A3.out).mono ?_); (case side1 => exact Kd.C_below HR1.out (by repeat (first | (with_reducible first | exact HB.out | apply below_alloc | apply pw_below_drewN | apply below_drew1 | refine below_set ?_ GE109.out) | exact HB.out))); (case side2 => exact HC1.out); rintro e w6 ⟨v111, rfl, ho0, hb⟩; refine ⟨_, rfl, ?_⟩; have n0_ := Aside0.mk (Kd.R_lower ho0 (below_size (by repeat (first | (with_reducible first | exact HB.out | apply below_alloc | apply pw_below_drewN | apply below_drew1 | refine below_set ?_ GE109.out) | exact HB.out)))); have n1_ := Aside0.mk (blk_below (g := gb109) (o := .cells #[.int .u8 a0_0, .int .u8 a0_1, .int .u8 a0_2, .int .u8 a0_3, .int .u8 a0_4, .int .u8 a0_5, .int .u8 a0_6, .int .u8 a0_7, .int .u8 a0_8, .int .u8 a0_9, .int .u8 a0_10, .int .u8 a0_11, .int .u16 a0_12, .slice A1 l1.length c1] 116 (0, 0)) (by (with_reducible repeat (first | refine blk_drewN ?_ _ | refine blk_drew ?_ | refine blk_alloc ?_ _)); refine blk_put (cs := #[.int .u8 a0_0, .int .u8 a0_1, .int .u8 a0_2, .int .u8 a0_3, .int .u8 a0_4, .int .u8 a0_5, .int .u8 a0_6, .int .u8 a0_7, .int .u8 a0_8, .int .u8 a0_9, .int .u8 a0_10, .int .u8 a0_11, .int .u16 a0_12, .slice A0_13 l0_13.length c0_13]) ?_ 13 _ rfl; (with_reducible repeat (first | refine blk_drewN ?_ _ | refine blk_drew ?_ | refine blk_alloc ?_ _)); exact BK109.out) hb); have n2_ := Aside0.mk (below_step (by repeat (first | (with_reducible first | exact HB.out | apply below_alloc | apply pw_below_drewN | apply below_drew1 | refine below_set ?_ GE109.out) | exact HB.out)) hb); clear BK109; clear HB; have HO112 := n0_; have BK109 := n1_; have HB := n2_; clear n0_ n1_ n2_; (try clear hb); (try clear hb2); (try clear hk); (try clear hi); (try clear ho0)))
 go_ret2
 exact ⟨_, by first | rfl | (simp [errW_none, errW_some] <;> rfl) | (simp [*, errW_none, errW_some] <;> rfl), by (with_reducible repeat (first | apply Kd.R_alloc | apply Kd.R_drewN | apply Kd.R_drew)); exact HO112.out, by repeat (first | (with_reducible first | exact HB.out | apply below_alloc | apply pw_below_drewN | apply below_drew1 | refine below_set ?_ GE109.out) | exact HB.out)⟩
def vxlan_Bytes.f (a0 : Int) (l1 : List Int) : Option (List Int × Int) := if a0 > 16777215 then (some (([] : List Int), 21)) else (if (l1.length : Int) > 1592 then (some (([] : List Int), 23)) else ((some (([8, 0, 0, 0, (a0 / 65536) % 256, (a0 / 256) % 256, (a0) % 256, 0] : List Int) : List Int)).bind fun y114 => (if y114.length + l1.length < 140737488355328 then (some ((y114 ++ l1), 0)) else (none))))
theorem vxlan_Bytes.calls (a0 : Int) (A1 : Option Addr) (c1 : Nat) (l1 : List Int) (r1 : List Int) (r2 : Int) (w : World) (hr1 : Kd.C (Kd.int .u8) w A1 l1.length l1) (hc1 : l1.length ≤ c1) (h : vxlan_Bytes.f a0 l1 = some (r1, r2)) :
  Calls Try.prog 152 #[.int .u32 a0, .slice A1 l1.length c1] w fun e w' => ∃ v0_ : Value, e = .returned (.tuple #[v0_, .int .i64 r2]) ∧ Kd.R (Kd.int .u8) 5 w' w.heap.size (fun _ => True) v0_ r1 ∧ Below w.heap.size w w' := by
 have HR1 := Aside0.mk hr1
 have HC1 := Aside0.mk hc1
 clear hr1 hc1
 have HB := Aside0.mk (Below.refl w.heap.size w)
 have H : (if a0 > 16777215 then (some (([] : List Int), 21)) else (if (l1.length : Int) > 1592 then (some (([] : List Int), 23)) else ((some (([8, 0, 0, 0, (a0 / 65536) % 256, (a0 / 256) % 256, (a0) % 256, 0] : List Int) : List Int)).bind fun y114 => (if y114.length + l1.length < 140737488355328 then (some ((y114 ++ l1), 0)) else (none))))) = some (r1, r2) := h
 clear h
 by_cases c3 : a0 > 16777215
 ·rw [if_pos c3] at H
  have c3b0 : decide (16777215 < a0) = true := decide_eq_true c3
  clear c3
  simp only [Option.some.injEq, Prod.mk.injEq] at H
  obtain ⟨rfl, rfl⟩ := H
  go_enter Try.func152, Try.ntmps152
  go_wp2
  go_ret2
  exact ⟨_, by first | rfl | (simp [errW_none, errW_some] <;> rfl) | (simp [*, errW_none, errW_some] <;> rfl), by first | exact Kd.R_nil _ _ _ _ _ | exact Kd.N_nil _ _ _ _ _ | exact Kd.V_nil _ _ _ _ _ | exact Kd.Q_nil _ _ _ _ _ | exact Kd.S_nil _ _ _ _ _, by repeat (first | exact HB.out | apply below_alloc | apply pw_below_drewN | apply below_drew1)⟩
 ·rw [if_neg c3] at H
  have c3b0 : decide (16777215 < a0) = false := decide_eq_false c3
  clear c3
  by_cases c4 : (l1.length : Int) > 1592
  ·rw [if_pos c4] at H
   have c4b0 : decide (1592 < (l1.length : Int)) = true := decide_eq_true c4
   have c4b1 : decide (1592 < l1.length) = true := decide_eq_true (by omega)
   clear c4
   simp only [Option.some.injEq, Prod.mk.injEq] at H
   obtain ⟨rfl, rfl⟩ := H
   go_enter Try.func152, Try.ntmps152
   go_wp2
   go_ret2
   exact ⟨_, by first | rfl | (simp [errW_none, errW_some] <;> rfl) | (simp [*, errW_none, errW_some] <;> rfl), by first | exact Kd.R_nil _ _ _ _ _ | exact Kd.N_nil _ _ _ _ _ | exact Kd.V_nil _ _ _ _ _ | exact Kd.Q_nil _ _ _ _ _ | exact Kd.S_nil _ _ _ _ _, by repeat (first | exact HB.out | apply below_alloc | apply pw_below_drewN | apply below_drew1)⟩
  ·rw [if_neg c4] at H
   have c4b0 : decide (1592 < (l1.length : Int)) = false := decide_eq_false c4
   have c4b1 : decide (1592 < l1.length) = false := decide_eq_false (by omega)
   clear c4
   obtain ⟨y114, hy114⟩ : ∃ y_ : List Int, y_ = (([8, 0, 0, 0, (a0 / 65536) % 256, (a0 / 256) % 256, (a0) % 256, 0] : List Int)) := ⟨_, rfl⟩
   replace H : (if y114.length + l1.length < 140737488355328 then (some ((y114 ++ l1), 0)) else (none)) = some (r1, r2) := by first | (rw [hy114]; with_reducible exact H) | (have H2_ := (Option.bind_some _ _).symm.trans H; rw [hy114]; with_reducible exact H2_) | (have H2_ := (Option.bind_some _ _).symm.trans H; with_reducible exact H2_) | with_reducible exact H | (rw [hy114]; exact H) | exact H
   have Ny114 := Aside0.mk hy114
   clear hy114
   by_cases c5 : y114.length + l1.length < 140737488355328
   ·rw [if_pos c5] at H
    have LMc5 := Aside0.mk c5
    clear c5
    obtain ⟨y117, hy117⟩ : ∃ y_ : List Int, y_ = (y114 ++ l1) := ⟨_, rfl⟩
    replace H : (some (y117, 0)) = some (r1, r2) := by first | (rw [hy117]; with_reducible exact H) | (have H2_ := (Option.bind_some _ _).symm.trans H; rw [hy117]; with_reducible exact H2_) | (have H2_ := (Option.bind_some _ _).symm.trans H; with_reducible exact H2_) | with_reducible exact H | (rw [hy117]; exact H) | exact H
    have Ny117 := Aside0.mk hy117
    clear hy117
    simp only [Option.some.injEq, Prod.mk.injEq] at H
    obtain ⟨rfl, rfl⟩ := H
    go_enter Try.func152, Try.ntmps152
    go_wp2_with (first | ((with_reducible refine gate_dst (N := 21) rfl ?_); refine Kd.R_lit (Kd.int .u8) _ 5 ?hg (N := 21) ?hd (xs := ([8, 0, 0, 0, (a0 / 65536) % 256, (a0 / 256) % 256, (a0) % 256, 0] : List Int)) (inner := [.int .u8 8, .int .u8 0, .int .u8 0, .int .u8 0, .int .u8 ((a0 / 65536) % 256), .int .u8 ((a0 / 256) % 256), .int .u8 ((a0) % 256), .int .u8 0]) (ok := fun _ => True) (okp := fun _ => True) ?hr ?hp (fun _ hk => hk) trivial (Below.refl _ _) (Nat.le_refl _) (by simp) ?_; (case hd => rfl); (case hg => rfl); (case hr => first | (go_simp; done) | (go_simp; simp only [IntKind.wrap_u8, IntKind.wrap_u16, IntKind.wrap_u32]; done) | (go_simp; rfl)); (case hp => exact (Reps.one (show Kd.M (Kd.int .u8) _ _ _ 8 [.int .u8 8] from rfl) (Reps.one (show Kd.M (Kd.int .u8) _ _ _ 0 [.int .u8 0] from rfl) (Reps.one (show Kd.M (Kd.int .u8) _ _ _ 0 [.int .u8 0] from rfl) (Reps.one (show Kd.M (Kd.int .u8) _ _ _ 0 [.int .u8 0] from rfl) (Reps.one (show Kd.M (Kd.int .u8) _ _ _ ((a0 / 65536) % 256) [.int .u8 ((a0 / 65536) % 256)] from rfl) (Reps.one (show Kd.M (Kd.int .u8) _ _ _ ((a0 / 256) % 256) [.int .u8 ((a0 / 256) % 256)] from rfl) (Reps.one (show Kd.M (Kd.int .u8) _ _ _ ((a0) % 256) [.int .u8 ((a0) % 256)] from rfl) (Reps.one (show Kd.M (Kd.int .u8) _ _ _ 0 [.int .u8 0] from rfl) (Reps.none _ _)))))))))); intro v115 w6 ho7 hb hg_ hnew_; clear hg_ hnew_; (first | rw [← Ny114.out] at ho7 | (simp only [Int.reduceToNat] at ho7; rw [← Ny114.out] at ho7)); have n0_ := Aside0.mk (Kd.R_lower ho7 (below_size (by repeat (first | exact HB.out | apply below_alloc | apply pw_below_drewN | apply below_drew1)))); have n1_ := Aside0.mk (below_step (by repeat (first | exact HB.out | apply below_alloc | apply pw_below_drewN | apply below_drew1)) hb); clear HB; have HO116 := n0_; have HB := n1_; clear n0_ n1_; clear hb ho7) | ((with_reducible refine gate_builtin (b := .append) (xs := #[.tmp 21, .tmp 22]) rfl ?_); at_builtin; refine Kd.R_append_rows (Kd.int .u8) (w0 := w) w.heap.size rfl (.tmp 21) (.tmp 22) 23 5 (.int .u8 0) 1 rfl Try.underlying23 info5 rfl (by decide) (by omega) v115 y114 l1 _ _ _ (fun _ => True) (fun _ => False) rfl rfl ?aO ?aR (fun _ _ h => h) (fun _ h => h.elim) ?aF ?aB ?aS ?aL ?_; (case aR => repeat (first | exact (Kd.C_below HR1.out HB.out) | (with_reducible refine Kd.C_alloc ?_ _) | (with_reducible refine Kd.C_drewN ?_ _) | (with_reducible refine Kd.C_drew ?_))); (case aB => exact (by repeat (first | exact HB.out | apply below_alloc | apply pw_below_drewN | apply below_drew1))); (case aF => exact (fun _ _ => trivial)); (case aO => exact (by (with_reducible repeat (first | apply Kd.R_alloc | apply Kd.R_drewN | apply Kd.R_drew)); exact HO116.out)); (case aS => exact (below_size (by repeat (first | exact HB.out | apply below_alloc | apply pw_below_drewN | apply below_drew1)))); (case aL => have := LMc5.out; omega); intro v118 w8 ho hb hg hat; rw [← Ny117.out] at ho; have n0_ := Aside0.mk (hb); have n1_ := Aside0.mk (ho); clear HB; clear HO116; have HB := n0_; have HO119 := n1_; clear n0_ n1_; clear ho hb hg hat))
    go_ret2
    exact ⟨_, by first | rfl | (simp [errW_none, errW_some] <;> rfl) | (simp [*, errW_none, errW_some] <;> rfl), by (with_reducible repeat (first | apply Kd.R_alloc | apply Kd.R_drewN | apply Kd.R_drew)); exact HO119.out, by repeat (first | exact HB.out | apply below_alloc | apply pw_below_drewN | apply below_drew1)⟩
   ·rw [if_neg c5] at H
    exact absurd H (by simp)
def frames_network_bytes.f (a0 : Int) (l1 : List Int) : Option (List Int × Int) := (vxlan_Bytes.f a0 l1).bind fun bt120 => (some (bt120.1, bt120.2))
theorem frames_network_bytes.calls (a0 : Int) (A1 : Option Addr) (c1 : Nat) (l1 : List Int) (r1 : List Int) (r2 : Int) (w : World) (hr1 : Kd.C (Kd.int .u8) w A1 l1.length l1) (hc1 : l1.length ≤ c1) (h : frames_network_bytes.f a0 l1 = some (r1, r2)) :
  Calls Try.prog 151 #[.int .u32 a0, .slice A1 l1.length c1] w fun e w' => ∃ v0_ : Value, e = .returned (.tuple #[v0_, .int .i64 r2]) ∧ Kd.R (Kd.int .u8) 5 w' w.heap.size (fun _ => True) v0_ r1 ∧ Below w.heap.size w w' := by
 have HR1 := Aside0.mk hr1
 have HC1 := Aside0.mk hc1
 clear hr1 hc1
 have HB := Aside0.mk (Below.refl w.heap.size w)
 have H : ((vxlan_Bytes.f a0 l1).bind fun bt120 => (some (bt120.1, bt120.2))) = some (r1, r2) := h
 clear h
 replace H := Option.bind_eq_some_iff.mp H
 obtain ⟨⟨t120, t121⟩, A30, H⟩ := H
 replace H : (some (t120, t121)) = some (r1, r2) := H
 have A3 := Aside0.mk A30
 clear A30
 simp only [Option.some.injEq, Prod.mk.injEq] at H
 obtain ⟨rfl, rfl⟩ := H
 go_enter Try.func151, Try.ntmps151
 go_wp2_with (first | ((with_reducible refine gate_callee (f := 152) rfl ?_); refine goesL_ (some 8) rfl rfl Try.func152 (by kernel_rfl) rfl #[.int .u32 a0, .slice A1 l1.length c1] rfl (by (try simp only [List.map_toArray, List.map_cons, List.map_nil]); first | done | rfl | (simp only [List.length_drop, List.length_take]; rfl) | (go_simp; done) | (simp [Act.eval, IntKind.signed]; done) | (simp [Act.eval, IntKind.signed]; rfl)) ?_; (with_reducible refine (vxlan_Bytes.calls a0 _ _ l1 t120 t121 _ ?side1 ?side2 A3.out).mono ?_); (case side1 => repeat (first | exact HR1.out | (with_reducible refine Kd.C_alloc ?_ _) | (with_reducible refine Kd.C_drewN ?_ _) | (with_reducible refine Kd.C_drew ?_))); (case side2 => exact HC1.out); rintro e w4 ⟨v122, rfl, ho0, hb⟩; refine ⟨_, rfl, ?_⟩; have n0_ := Aside0.mk (Kd.R_lower ho0 (below_size (by repeat (first | exact HB.out | apply below_alloc | apply pw_below_drewN | apply below_drew1)))); have n1_ := Aside0.mk (below_step (by repeat (first | exact HB.out | apply below_alloc | apply pw_below_drewN | apply below_drew1)) hb); clear HB; have HO123 := n0_; have HB := n1_; clear n0_ n1_; (try clear hb); (try clear hb2); (try clear hk); (try clear hi); (try clear ho0)))
 go_ret2
 exact ⟨_, by first | rfl | (simp [errW_none, errW_some] <;> rfl) | (simp [*, errW_none, errW_some] <;> rfl), by (with_reducible repeat (first | apply Kd.R_alloc | apply Kd.R_drewN | apply Kd.R_drew)); exact HO123.out, by repeat (first | exact HB.out | apply below_alloc | apply pw_below_drewN | apply below_drew1)⟩
def frames_datagram_bytes.f (a0_0 : Int) (a0_1 : Int) (a0_2 : Int) (l0_3 : List Int) (l1 : List Int) : Option (List Int × Int) := (udp_Bytes.f a0_0 a0_1 a0_2 l1).bind fun bt132 => (some (bt132.1, bt132.2))
theorem frames_datagram_bytes.calls (a0_0 : Int) (a0_1 : Int) (a0_2 : Int) (A0_3 : Option Addr) (c0_3 : Nat) (l0_3 : List Int) (A1 : Option Addr) (c1 : Nat) (l1 : List Int) (r1 : List Int) (r2 : Int) (w : World) (hr0_3 : Kd.C (Kd.int .u8) w A0_3 l0_3.length l0_3) (hc0_3 : l0_3.length ≤ c0_3) (hr1 : Kd.C (Kd.int .u8) w A1 l1.length l1) (hc1 : l1.length ≤ c1) (h : frames_datagram_bytes.f a0_0 a0_1 a0_2 l0_3 l1 = some (r1, r2)) :
  Calls Try.prog 153 #[.agg #[.int .u16 a0_0, .int .u16 a0_1, .int .u16 a0_2, .slice A0_3 l0_3.length c0_3], .slice A1 l1.length c1] w fun e w' => ∃ v0_ : Value, e = .returned (.tuple #[v0_, .int .i64 r2]) ∧ Kd.R (Kd.int .u8) 5 w' w.heap.size (fun _ => True) v0_ r1 ∧ Below w.heap.size w w' := by
 have hu119 := Try.underlying119
 have hu83 := Try.underlying83
 have HR0_3 := Aside0.mk hr0_3
 have HC0_3 := Aside0.mk hc0_3
 clear hr0_3 hc0_3
 have HR1 := Aside0.mk hr1
 have HC1 := Aside0.mk hc1
 clear hr1 hc1
 have HB := Aside0.mk (Below.refl w.heap.size w)
 have H : ((udp_Bytes.f a0_0 a0_1 a0_2 l1).bind fun bt132 => (some (bt132.1, bt132.2))) = some (r1, r2) := h
 clear h
 replace H := Option.bind_eq_some_iff.mp H
 obtain ⟨⟨t132, t135⟩, A30, H⟩ := H
 replace H : (some (t132, t135)) = some (r1, r2) := H
 have A3 := Aside0.mk A30
 clear A30
 simp only [Option.some.injEq, Prod.mk.injEq] at H
 obtain ⟨rfl, rfl⟩ := H
 go_enter Try.func153, Try.ntmps153
 go_wp2_with (first | ((with_reducible refine gate_dst (N := 2) rfl ?_); refine box_event ?hg (N := 2) ?hd (cs := #[.int .u16 a0_0, .int .u16 a0_1, .int .u16 a0_2, .slice A0_3 l0_3.length c0_3]) (t := 119) ?hr ?_; (case hd => rfl); (case hg => rfl); (case hr => first | (go_simp; done) | (go_simp; rfl)); intro gb131 hg w4 hbox hb; have n0_ := Aside0.mk (below_step (by repeat (first | exact HB.out | apply below_alloc | apply pw_below_drewN | apply below_drew1)) hb); have n1_ := Aside0.mk (hbox); have n2_ := Aside0.mk ((by rw [hg]; exact (below_size (by repeat (first | exact HB.out | apply below_alloc | apply pw_below_drewN | apply below_drew1))) : w.heap.size ≤ gb131)); have n3_ := Aside0.mk ((by rw [hg]; exact (below_size (by repeat (first | exact HB.out | apply below_alloc | apply pw_below_drewN | apply below_drew1))) : w.heap.size ≤ gb131)); clear HB; have HB := n0_; have BK131 := n1_; have GW131 := n2_; have GE131 := n3_; clear n0_ n1_ n2_ n3_; clear hb hbox hg; have hcz5_0 : w4.cell? ⟨gb131, 0, none⟩ = some (.int .u16 a0_0) := (blk_cell BK131.out 0).trans rfl; have hcz5_1 : w4.cell? ⟨gb131, 1, none⟩ = some (.int .u16 a0_1) := (blk_cell BK131.out 1).trans rfl; have hcz5_2 : w4.cell? ⟨gb131, 2, none⟩ = some (.int .u16 a0_2) := (blk_cell BK131.out 2).trans rfl; have hcz5_3 : w4.cell? ⟨gb131, 3, none⟩ = some (.slice A0_3 l0_3.length c0_3) := (blk_cell BK131.out 3).trans rfl; have hfz5_0 := blk_frozen BK131.out 0; have hfz5_1 := blk_frozen BK131.out 1; have hfz5_2 := blk_frozen BK131.out 2; have hfz5_3 := blk_frozen BK131.out 3) | ((with_reducible refine gate_callee (f := 108) rfl ?_); refine goesL_ (some 11) rfl rfl Try.func108 (by kernel_rfl) rfl #[.agg #[.int .u16 a0_0, .int .u16 a0_1, .int .u16 a0_2, .slice A1 l1.length c1]] rfl (by (try simp only [List.map_toArray, List.map_cons, List.map_nil]); first | done | rfl | (simp only [List.length_drop, List.length_take]; rfl) | (go_simp; done) | (simp [Act.eval, IntKind.signed]; done) | (simp [Act.eval, IntKind.signed]; rfl)) ?_; (with_reducible refine (udp_Bytes.calls a0_0 a0_1 a0_2 _ _ l1 t132 t135 _ ?side1 ?side2 A3.out).mono ?_); (case side1 => exact Kd.C_below HR1.out (by repeat (first | (with_reducible first | exact HB.out | apply below_alloc | apply pw_below_drewN | apply below_drew1 | refine below_set ?_ GE131.out) | exact HB.out))); (case side2 => exact HC1.out); rintro e w6 ⟨v133, rfl, ho0, hb⟩; refine ⟨_, rfl, ?_⟩; have n0_ := Aside0.mk (Kd.R_lower ho0 (below_size (by repeat (first | (with_reducible first | exact HB.out | apply below_alloc | apply pw_below_drewN | apply below_drew1 | refine below_set ?_ GE131.out) | exact HB.out)))); have n1_ := Aside0.mk (blk_below (g := gb131) (o := .cells #[.int .u16 a0_0, .int .u16 a0_1, .int .u16 a0_2, .slice A1 l1.length c1] 119 (0, 0)) (by (with_reducible repeat (first | refine blk_drewN ?_ _ | refine blk_drew ?_ | refine blk_alloc ?_ _)); refine blk_put (cs := #[.int .u16 a0_0, .int .u16 a0_1, .int .u16 a0_2, .slice A0_3 l0_3.length c0_3]) ?_ 3 _ rfl; (with_reducible repeat (first | refine blk_drewN ?_ _ | refine blk_drew ?_ | refine blk_alloc ?_ _)); exact BK131.out) hb); have n2_ := Aside0.mk (below_step (by repeat (first | (with_reducible first | exact HB.out | apply below_alloc | apply pw_below_drewN | apply below_drew1 | refine below_set ?_ GE131.out) | exact HB.out)) hb); clear BK131; clear HB; have HO134 := n0_; have BK131 := n1_; have HB := n2_; clear n0_ n1_ n2_; (try clear hb); (try clear hb2); (try clear hk); (try clear hi); (try clear ho0)))
 go_ret2
 exact ⟨_, by first | rfl | (simp [errW_none, errW_some] <;> rfl) | (simp [*, errW_none, errW_some] <;> rfl), by (with_reducible repeat (first | apply Kd.R_alloc | apply Kd.R_drewN | apply Kd.R_drew)); exact HO134.out, by repeat (first | (with_reducible first | exact HB.out | apply below_alloc | apply pw_below_drewN | apply below_drew1 | refine below_set ?_ GE131.out) | exact HB.out)⟩
mutual
def ip_Bytes.j0 : Nat → Int → Bool → Int → Int → Int → Int → Int → Int → Int → Int → List Int → List Int → Option (List Int × Int)
 | 0, _, _, _, _, _, _, _, _, _, _, _, _ => none
 | k + 1, x4, x15, x153000, x153001, x153002, x153003, x153004, x153005, x153006, x153007, x153008, x153009 => if x15 = true then (some (([] : List Int), 21)) else (if (x153009.length : Int) > (wrap64 (65535 - x4)) then (some (([] : List Int), 23)) else ((some (([x153006, x153007] : List Int) : List Int)).bind fun y156 => (ip_Bytes.l0 k (([Go.bits .or .u8 64 ((wrap64 (Int.tdiv x4 4)) % 256), x153000, ((wrap64 (x4 + (x153009.length : Int))) / 256) % 256, (wrap64 (x4 + (x153009.length : Int))) % 256, (x153003 / 256) % 256, (x153003) % 256, ((Go.bits .or .u16 (IntKind.u16.wrap ((IntKind.u16.wrap (x153004)) * 8192)) x153005) / 256) % 256, (Go.bits .or .u16 (IntKind.u16.wrap ((IntKind.u16.wrap (x153004)) * 8192)) x153005) % 256, x153001, x153002, 0, 0] : List Int)) y156 (y156.length : Int) 0 x153000 x153001 x153002 x153003 x153004 x153005 x153006 x153007 x153008 x153009)))
def ip_Bytes.l0 : Nat → List Int → List Int → Int → Int → Int → Int → Int → Int → Int → Int → Int → Int → List Int → List Int → Option (List Int × Int)
 | 0, _, _, _, _, _, _, _, _, _, _, _, _, _, _ => none
 | k + 1, x7, x88, x89, x90, x153000, x153001, x153002, x153003, x153004, x153005, x153006, x153007, x153008, x153009 => if x90 < x89 then (if 0 ≤ x90 then (if x90 < (x88.length : Int) then ((some (([((rd x88 x90) / 16777216) % 256, ((rd x88 x90) / 65536) % 256, ((rd x88 x90) / 256) % 256, (rd x88 x90) % 256] : List Int) : List Int)).bind fun y160 => (if x7.length + y160.length < 140737488355328 then (ip_Bytes.l0 k (x7 ++ y160) x88 x89 (wrap64 (x90 + 1)) x153000 x153001 x153002 x153003 x153004 x153005 x153006 x153007 x153008 x153009) else (none))) else (none)) else (none)) else (if x7.length + x153008.length < 140737488355328 then ((some (x7 ++ x153008 : List Int)).bind fun y166 => ((sum_Of.f k y166).bind fun t169 => (if 10 < (y166.length : Int) then (if 11 < (y166.length : Int) then ((some ((y166.set (10 : Int).toNat ((t169 / 256) % 256)).set (11 : Int).toNat ((t169) % 256) : List Int)).bind fun y171 => (if y171.length + x153009.length < 140737488355328 then (some ((y171 ++ x153009), 0)) else (none))) else (none)) else (none)))) else (none))
end
def ip_Bytes.f (k : Nat) (a0_0 : Int) (a0_1 : Int) (a0_2 : Int) (a0_3 : Int) (a0_4 : Int) (a0_5 : Int) (a0_6 : Int) (a0_7 : Int) (l0_8 : List Int) (l0_9 : List Int) : Option (List Int × Int) := if ((l0_8.length : Int) % 4) = 0 then (if (l0_8.length : Int) > 40 then (ip_Bytes.j0 k (wrap64 (20 + (l0_8.length : Int))) true a0_0 a0_1 a0_2 a0_3 a0_4 a0_5 a0_6 a0_7 l0_8 l0_9) else (if a0_4 > 7 then (ip_Bytes.j0 k (wrap64 (20 + (l0_8.length : Int))) true a0_0 a0_1 a0_2 a0_3 a0_4 a0_5 a0_6 a0_7 l0_8 l0_9) else (ip_Bytes.j0 k (wrap64 (20 + (l0_8.length : Int))) (decide (a0_5 > 8191)) a0_0 a0_1 a0_2 a0_3 a0_4 a0_5 a0_6 a0_7 l0_8 l0_9))) else (ip_Bytes.j0 k (wrap64 (20 + (l0_8.length : Int))) true a0_0 a0_1 a0_2 a0_3 a0_4 a0_5 a0_6 a0_7 l0_8 l0_9)
theorem ip_Bytes.calls (k : Nat) (a0_0 : Int) (a0_1 : Int) (a0_2 : Int) (a0_3 : Int) (a0_4 : Int) (a0_5 : Int) (a0_6 : Int) (a0_7 : Int) (A0_8 : Option Addr) (c0_8 : Nat) (l0_8 : List Int) (A0_9 : Option Addr) (c0_9 : Nat) (l0_9 : List Int) (r1 : List Int) (r2 : Int) (w : World) (hr0_8 : Kd.C (Kd.int .u8) w A0_8 l0_8.length l0_8) (hc0_8 : l0_8.length ≤ c0_8) (hr0_9 : Kd.C (Kd.int .u8) w A0_9 l0_9.length l0_9) (hc0_9 : l0_9.length ≤ c0_9) (h : ip_Bytes.f k a0_0 a0_1 a0_2 a0_3 a0_4 a0_5 a0_6 a0_7 l0_8 l0_9 = some (r1, r2)) :
  Calls Try.prog 71 #[.agg #[.int .u8 a0_0, .int .u8 a0_1, .int .u8 a0_2, .int .u16 a0_3, .int .u8 a0_4, .int .u16 a0_5, .int .u32 a0_6, .int .u32 a0_7, .slice A0_8 l0_8.length c0_8, .slice A0_9 l0_9.length c0_9]] w fun e w' => ∃ v0_ : Value, e = .returned (.tuple #[v0_, .int .i64 r2]) ∧ Kd.R (Kd.int .u8) 5 w' w.heap.size (fun _ => True) v0_ r1 ∧ Below w.heap.size w w' := by
 have hu73 := Try.underlying73
 have HR0_8 := Aside0.mk hr0_8
 have HC0_8 := Aside0.mk hc0_8
 clear hr0_8 hc0_8
 have HR0_9 := Aside0.mk hr0_9
 have HC0_9 := Aside0.mk hc0_9
 clear hr0_9 hc0_9
 have HB := Aside0.mk (Below.refl w.heap.size w)
 have H : (if ((l0_8.length : Int) % 4) = 0 then (if (l0_8.length : Int) > 40 then (ip_Bytes.j0 k (wrap64 (20 + (l0_8.length : Int))) true a0_0 a0_1 a0_2 a0_3 a0_4 a0_5 a0_6 a0_7 l0_8 l0_9) else (if a0_4 > 7 then (ip_Bytes.j0 k (wrap64 (20 + (l0_8.length : Int))) true a0_0 a0_1 a0_2 a0_3 a0_4 a0_5 a0_6 a0_7 l0_8 l0_9) else (ip_Bytes.j0 k (wrap64 (20 + (l0_8.length : Int))) (decide (a0_5 > 8191)) a0_0 a0_1 a0_2 a0_3 a0_4 a0_5 a0_6 a0_7 l0_8 l0_9))) else (ip_Bytes.j0 k (wrap64 (20 + (l0_8.length : Int))) true a0_0 a0_1 a0_2 a0_3 a0_4 a0_5 a0_6 a0_7 l0_8 l0_9)) = some (r1, r2) := h
 clear h
 have HC2 := Aside0.mk H
 clear H
 go_enter Try.func71, Try.ntmps71
 go_upto_region 2 with (first | ((with_reducible refine gate_dst (N := 1) rfl ?_); (try (refine gate_guard (by rfl) ?_; dsimp only)); refine box_event ?hg (N := 1) ?hd (cs := #[.int .u8 a0_0, .int .u8 a0_1, .int .u8 a0_2, .int .u16 a0_3, .int .u8 a0_4, .int .u16 a0_5, .int .u32 a0_6, .int .u32 a0_7, .slice A0_8 l0_8.length c0_8, .slice A0_9 l0_9.length c0_9]) (t := 73) ?hr ?_; (case hd => rfl); (case hg => rfl); (case hr => first | (go_simp; done) | (go_simp; rfl)); intro gb152 hg w3 hbox hb; have n0_ := Aside0.mk (below_step (bz HB) hb); have n1_ := Aside0.mk (hbox); have n2_ := Aside0.mk ((by rw [hg]; exact (below_size (bz HB)) : w.heap.size ≤ gb152)); have n3_ := Aside0.mk ((by rw [hg]; exact (below_size (bz HB)) : w.heap.size ≤ gb152)); clear HB; have HB := n0_; have BK152 := n1_; have GW152 := n2_; have GE152 := n3_; clear n0_ n1_ n2_ n3_; clear hb hbox hg; have hcz4_0 : w3.cell? ⟨gb152, 0, none⟩ = some (.int .u8 a0_0) := cz BK152.out 0 rfl; have hcz4_1 : w3.cell? ⟨gb152, 1, none⟩ = some (.int .u8 a0_1) := cz BK152.out 1 rfl; have hcz4_2 : w3.cell? ⟨gb152, 2, none⟩ = some (.int .u8 a0_2) := cz BK152.out 2 rfl; have hcz4_3 : w3.cell? ⟨gb152, 3, none⟩ = some (.int .u16 a0_3) := cz BK152.out 3 rfl; have hcz4_4 : w3.cell? ⟨gb152, 4, none⟩ = some (.int .u8 a0_4) := cz BK152.out 4 rfl; have hcz4_5 : w3.cell? ⟨gb152, 5, none⟩ = some (.int .u16 a0_5) := cz BK152.out 5 rfl; have hcz4_6 : w3.cell? ⟨gb152, 6, none⟩ = some (.int .u32 a0_6) := cz BK152.out 6 rfl; have hcz4_7 : w3.cell? ⟨gb152, 7, none⟩ = some (.int .u32 a0_7) := cz BK152.out 7 rfl; have hcz4_8 : w3.cell? ⟨gb152, 8, none⟩ = some (.slice A0_8 l0_8.length c0_8) := cz BK152.out 8 rfl; have hcz4_9 : w3.cell? ⟨gb152, 9, none⟩ = some (.slice A0_9 l0_9.length c0_9) := cz BK152.out 9 rfl; have hfz4_0 := blk_frozen BK152.out 0; have hfz4_1 := blk_frozen BK152.out 1; have hfz4_2 := blk_frozen BK152.out 2; have hfz4_3 := blk_frozen BK152.out 3; have hfz4_4 := blk_frozen BK152.out 4; have hfz4_5 := blk_frozen BK152.out 5; have hfz4_6 := blk_frozen BK152.out 6; have hfz4_7 := blk_frozen BK152.out 7; have hfz4_8 := blk_frozen BK152.out 8; have hfz4_9 := blk_frozen BK152.out 9))
 (try simp only [Act.put, List.setIfInBounds_toArray, List.set_cons_zero, List.set_cons_succ])
 go_cut [15] (fun v15 wc => ∃ (kq : Nat) (x15_1 : Bool), v15 = .bool x15_1 ∧ Aside0 (ip_Bytes.j0 kq (wrap64 (20 + (l0_8.length : Int))) x15_1 a0_0 a0_1 a0_2 a0_3 a0_4 a0_5 a0_6 a0_7 l0_8 l0_9 = some (r1, r2)) ∧ Aside0 (kq ≤ k) ∧ Aside0 (wc.heap[gb152]? = some (.cells #[.int .u8 a0_0, .int .u8 a0_1, .int .u8 a0_2, .int .u16 a0_3, .int .u8 a0_4, .int .u16 a0_5, .int .u32 a0_6, .int .u32 a0_7, (.slice A0_8 l0_8.length c0_8), (.slice A0_9 l0_9.length c0_9)] 73 (0, 0))) ∧ Aside0 (Below w.heap.size w wc))
 case first =>
  have H := HC2.out
  clear HC2
  by_cases c5 : ((l0_8.length : Int) % 4) = 0
  ·rw [if_pos c5] at H
   have c5b0 : (((l0_8.length : Int) % 4) == 0) = true := beq_iff_eq.mpr c5
   have c5b1 : (((l0_8.length : Int) % 4) != 0) = false := bne_eq_false_iff_eq.mpr c5
   clear c5
   (first | rw [c5b0] | (simp only [i64_w, i32_w]; rw [c5b0]) | skip)
   by_cases c6 : (l0_8.length : Int) > 40
   ·rw [if_pos c6] at H
    have c6b0 : decide (40 < (l0_8.length : Int)) = true := decide_eq_true c6
    have c6b1 : decide (40 < l0_8.length) = true := decide_eq_true (by omega)
    clear c6
    have H' := Aside0.mk H
    clear H
    have hcz7_0_ := cs10 BK152.out
    have hfz7_0_ := blk_frozen BK152.out
    go_wp2
    repeat (go_quiet (fail); try go_wp2)
    go_meet
    case rel => exact ⟨_, (true), (by first | rfl | (simp; done) | (simp [*]; done)), H', ⟨by first | omega | exact Nat.le_refl _⟩, ⟨kz BK152⟩, ⟨bz HB⟩⟩
   ·rw [if_neg c6] at H
    have c6b0 : decide (40 < (l0_8.length : Int)) = false := decide_eq_false c6
    have c6b1 : decide (40 < l0_8.length) = false := decide_eq_false (by omega)
    clear c6
    by_cases c8 : a0_4 > 7
    ·rw [if_pos c8] at H
     have c8b0 : decide (7 < a0_4) = true := decide_eq_true c8
     clear c8
     have H' := Aside0.mk H
     clear H
     have hcz9_0_ := cs10 BK152.out
     have hfz9_0_ := blk_frozen BK152.out
     go_wp2
     repeat (go_quiet (fail); try go_wp2)
     go_meet
     case rel => exact ⟨_, (true), (by first | rfl | (simp; done) | (simp [*]; done)), H', ⟨by first | omega | exact Nat.le_refl _⟩, ⟨kz BK152⟩, ⟨bz HB⟩⟩
    ·rw [if_neg c8] at H
     have c8b0 : decide (7 < a0_4) = false := decide_eq_false c8
     clear c8
     have H' := Aside0.mk H
     clear H
     have hcz10_0_ := cs10 BK152.out
     have hfz10_0_ := blk_frozen BK152.out
     go_wp2
     repeat (go_quiet (fail); try go_wp2)
     go_meet
     case rel => exact ⟨_, (decide (a0_5 > 8191)), (by first | rfl | (simp; done) | (simp [*]; done)), H', ⟨by first | omega | exact Nat.le_refl _⟩, ⟨kz BK152⟩, ⟨bz HB⟩⟩
  ·rw [if_neg c5] at H
   have c5b0 : (((l0_8.length : Int) % 4) == 0) = false := beq_eq_false_iff_ne.mpr c5
   have c5b1 : (((l0_8.length : Int) % 4) != 0) = true := bne_iff_ne.mpr c5
   (first | rw [c5b0] | (simp only [i64_w, i32_w]; rw [c5b0]) | skip)
   have H' := Aside0.mk H
   clear H
   have hcz11_0_ := cs10 BK152.out
   have hfz11_0_ := blk_frozen BK152.out
   go_wp2
   repeat (go_quiet (fail); try go_wp2)
   go_meet
   case rel => exact ⟨_, (true), (by first | rfl | (simp; done) | (simp [*]; done)), H', ⟨by first | omega | exact Nat.le_refl _⟩, ⟨kz BK152⟩, ⟨bz HB⟩⟩
 case rest =>
  clear HC2
  try clear hcz4_0
  try clear hcz4_1
  try clear hcz4_2
  try clear hcz4_3
  try clear hcz4_4
  try clear hcz4_5
  try clear hcz4_6
  try clear hcz4_7
  try clear hcz4_8
  try clear hcz4_9
  try clear hfz4_0
  try clear hfz4_1
  try clear hfz4_2
  try clear hfz4_3
  try clear hfz4_4
  try clear hfz4_5
  try clear hfz4_6
  try clear hfz4_7
  try clear hfz4_8
  try clear hfz4_9
  obtain ⟨kq, x15_1, rfl, HA, HJ1, BK152, HB⟩ := hcut
  cases kq with
  | zero => exact absurd HA.out (by simp [ip_Bytes.j0])
  | succ kj1 =>
   have H := HA.out
   clear HA
   simp only [ip_Bytes.j0] at H
   by_cases c12 : x15_1 = true
   ·subst c12
    have H1 : (some (([] : List Int), 21)) = some (r1, r2) := by rw [if_pos rfl] at H; exact H
    clear H
    have H := H1
    clear H1
    simp only [Option.some.injEq, Prod.mk.injEq] at H
    obtain ⟨rfl, rfl⟩ := H
    go_wp2
    repeat (go_quiet (fail); try go_wp2)
    go_ret2
    exact ⟨_, by first | rfl | (simp [errW_none, errW_some] <;> rfl) | (simp [*, errW_none, errW_some] <;> rfl), by first | exact Kd.R_nil _ _ _ _ _ | exact Kd.N_nil _ _ _ _ _ | exact Kd.V_nil _ _ _ _ _ | exact Kd.Q_nil _ _ _ _ _ | exact Kd.S_nil _ _ _ _ _, bz HB⟩
   ·replace c12 := Bool.eq_false_iff.mpr c12
    subst c12
    have H1 : (if (l0_9.length : Int) > (wrap64 (65535 - (wrap64 (20 + (l0_8.length : Int))))) then (some (([] : List Int), 23)) else ((some (([a0_6, a0_7] : List Int) : List Int)).bind fun y156 => (ip_Bytes.l0 kj1 (([Go.bits .or .u8 64 ((wrap64 (Int.tdiv (wrap64 (20 + (l0_8.length : Int))) 4)) % 256), a0_0, ((wrap64 ((wrap64 (20 + (l0_8.length : Int))) + (l0_9.length : Int))) / 256) % 256, (wrap64 ((wrap64 (20 + (l0_8.length : Int))) + (l0_9.length : Int))) % 256, (a0_3 / 256) % 256, (a0_3) % 256, ((Go.bits .or .u16 (IntKind.u16.wrap ((IntKind.u16.wrap (a0_4)) * 8192)) a0_5) / 256) % 256, (Go.bits .or .u16 (IntKind.u16.wrap ((IntKind.u16.wrap (a0_4)) * 8192)) a0_5) % 256, a0_1, a0_2, 0, 0] : List Int)) y156 (y156.length : Int) 0 a0_0 a0_1 a0_2 a0_3 a0_4 a0_5 a0_6 a0_7 l0_8 l0_9))) = some (r1, r2) := by rw [if_neg (show ¬ (false = true) by decide)] at H; exact H
    clear H
    have H := H1
    clear H1
    by_cases c13 : (l0_9.length : Int) > (wrap64 (65535 - (wrap64 (20 + (l0_8.length : Int)))))
    ·rw [if_pos c13] at H
     have c13b0 : decide ((wrap64 (65535 - (wrap64 (20 + (l0_8.length : Int))))) < (l0_9.length : Int)) = true := decide_eq_true c13
     clear c13
     simp only [Option.some.injEq, Prod.mk.injEq] at H
     obtain ⟨rfl, rfl⟩ := H
     have hcz14_0_ := cs10 BK152.out
     have hfz14_0_ := blk_frozen BK152.out
     go_wp2
     repeat (go_quiet (fail); try go_wp2)
     go_ret2
     exact ⟨_, by first | rfl | (simp [errW_none, errW_some] <;> rfl) | (simp [*, errW_none, errW_some] <;> rfl), by first | exact Kd.R_nil _ _ _ _ _ | exact Kd.N_nil _ _ _ _ _ | exact Kd.V_nil _ _ _ _ _ | exact Kd.Q_nil _ _ _ _ _ | exact Kd.S_nil _ _ _ _ _, bz HB⟩
    ·rw [if_neg c13] at H
     have c13b0 : decide ((wrap64 (65535 - (wrap64 (20 + (l0_8.length : Int))))) < (l0_9.length : Int)) = false := decide_eq_false c13
     clear c13
     obtain ⟨y153, hy153⟩ : ∃ y_ : List Int, y_ = (([Go.bits .or .u8 64 ((wrap64 (Int.tdiv (wrap64 (20 + (l0_8.length : Int))) 4)) % 256), a0_0, ((wrap64 ((wrap64 (20 + (l0_8.length : Int))) + (l0_9.length : Int))) / 256) % 256, (wrap64 ((wrap64 (20 + (l0_8.length : Int))) + (l0_9.length : Int))) % 256, (a0_3 / 256) % 256, (a0_3) % 256, ((Go.bits .or .u16 (IntKind.u16.wrap ((IntKind.u16.wrap (a0_4)) * 8192)) a0_5) / 256) % 256, (Go.bits .or .u16 (IntKind.u16.wrap ((IntKind.u16.wrap (a0_4)) * 8192)) a0_5) % 256, a0_1, a0_2, 0, 0] : List Int)) := ⟨_, rfl⟩
     replace H : ((some (([a0_6, a0_7] : List Int) : List Int)).bind fun y156 => (ip_Bytes.l0 kj1 y153 y156 (y156.length : Int) 0 a0_0 a0_1 a0_2 a0_3 a0_4 a0_5 a0_6 a0_7 l0_8 l0_9)) = some (r1, r2) := by first | (rw [hy153]; with_reducible exact H) | (have H2_ := (Option.bind_some _ _).symm.trans H; rw [hy153]; with_reducible exact H2_) | (have H2_ := (Option.bind_some _ _).symm.trans H; with_reducible exact H2_) | with_reducible exact H | (rw [hy153]; exact H) | exact H
     have Ny153 := Aside0.mk hy153
     clear hy153
     obtain ⟨y156, hy156⟩ : ∃ y_ : List Int, y_ = (([a0_6, a0_7] : List Int)) := ⟨_, rfl⟩
     replace H : (ip_Bytes.l0 kj1 y153 y156 (y156.length : Int) 0 a0_0 a0_1 a0_2 a0_3 a0_4 a0_5 a0_6 a0_7 l0_8 l0_9) = some (r1, r2) := by first | (rw [hy156]; with_reducible exact H) | (have H2_ := (Option.bind_some _ _).symm.trans H; rw [hy156]; with_reducible exact H2_) | (have H2_ := (Option.bind_some _ _).symm.trans H; with_reducible exact H2_) | with_reducible exact H | (rw [hy156]; exact H) | exact H
     have Ny156 := Aside0.mk hy156
     clear hy156
     have H' := Aside0.mk H
     clear H
     have hcz15_0_ := cs10 BK152.out
     have hfz15_0_ := blk_frozen BK152.out
     go_wp2_with (first | ((with_reducible refine gate_dst (N := 88) rfl ?_); (try (refine gate_guard (by rfl) ?_; dsimp only)); refine Kd.R_lit (Kd.int .u32) _ 27 ?hg (N := 88) ?hd (xs := ([a0_6, a0_7] : List Int)) (inner := [.int .u32 a0_6, .int .u32 a0_7]) (ok := fun _ => True) (okp := fun _ => True) ?hr ?hp (fun _ hk => hk) trivial (Below.refl _ _) (Nat.le_refl _) (by simp) ?_; (case hd => rfl); (case hg => rfl); (case hr => first | (go_simp; done) | (go_simp; rfl)); (case hp => exact (Reps.one (show Kd.M (Kd.int .u32) _ _ _ a0_6 [.int .u32 a0_6] from rfl) (Reps.one (show Kd.M (Kd.int .u32) _ _ _ a0_7 [.int .u32 a0_7] from rfl) (Reps.none _ _)))); intro v157 w19 ho20 hb hg_ hnew_; clear hg_ hnew_; (first | rw [← Ny156.out] at ho20 | (simp only [Int.reduceToNat] at ho20; rw [← Ny156.out] at ho20)); have n0_ := Aside0.mk (Kd.R_below (Kd.rz HO155) hb); have n1_ := Aside0.mk (Kd.R_lower ho20 (below_size (bz HB))); have n2_ := Aside0.mk (blk_below (kz BK152) hb); have n3_ := Aside0.mk (below_step (bz HB) hb); clear HO155; clear BK152; clear HB; have HO155 := n0_; have HO158 := n1_; have BK152 := n2_; have HB := n3_; clear n0_ n1_ n2_ n3_; clear hb ho20; obtain ⟨Ao21, co21, eo21⟩ := Kd.R_slice HO158.out; subst eo21))
     repeat (go_quiet (first | ((with_reducible refine gate_dst (N := 88) rfl ?_); (try (refine gate_guard (by rfl) ?_; dsimp only)); refine Kd.R_lit (Kd.int .u32) _ 27 ?hg (N := 88) ?hd (xs := ([a0_6, a0_7] : List Int)) (inner := [.int .u32 a0_6, .int .u32 a0_7]) (ok := fun _ => True) (okp := fun _ => True) ?hr ?hp (fun _ hk => hk) trivial (Below.refl _ _) (Nat.le_refl _) (by simp) ?_; (case hd => rfl); (case hg => rfl); (case hr => first | (go_simp; done) | (go_simp; rfl)); (case hp => exact (Reps.one (show Kd.M (Kd.int .u32) _ _ _ a0_6 [.int .u32 a0_6] from rfl) (Reps.one (show Kd.M (Kd.int .u32) _ _ _ a0_7 [.int .u32 a0_7] from rfl) (Reps.none _ _)))); intro v157 w19 ho20 hb hg_ hnew_; clear hg_ hnew_; (first | rw [← Ny156.out] at ho20 | (simp only [Int.reduceToNat] at ho20; rw [← Ny156.out] at ho20)); have n0_ := Aside0.mk (Kd.R_below (Kd.rz HO155) hb); have n1_ := Aside0.mk (Kd.R_lower ho20 (below_size (bz HB))); have n2_ := Aside0.mk (blk_below (kz BK152) hb); have n3_ := Aside0.mk (below_step (bz HB) hb); clear HO155; clear BK152; clear HB; have HO155 := n0_; have HO158 := n1_; have BK152 := n2_; have HB := n3_; clear n0_ n1_ n2_ n3_; clear hb ho20; obtain ⟨Ao21, co21, eo21⟩ := Kd.R_slice HO158.out; subst eo21)); try go_wp2_with (first | ((with_reducible refine gate_dst (N := 83) rfl ?_); (try (refine gate_guard (by rfl) ?_; dsimp only)); refine Kd.R_lit (Kd.int .u8) _ 5 ?hg (N := 83) ?hd (xs := ([Go.bits .or .u8 64 ((wrap64 (Int.tdiv (wrap64 (20 + (l0_8.length : Int))) 4)) % 256), a0_0, ((wrap64 ((wrap64 (20 + (l0_8.length : Int))) + (l0_9.length : Int))) / 256) % 256, (wrap64 ((wrap64 (20 + (l0_8.length : Int))) + (l0_9.length : Int))) % 256, (a0_3 / 256) % 256, (a0_3) % 256, ((Go.bits .or .u16 (IntKind.u16.wrap ((IntKind.u16.wrap (a0_4)) * 8192)) a0_5) / 256) % 256, (Go.bits .or .u16 (IntKind.u16.wrap ((IntKind.u16.wrap (a0_4)) * 8192)) a0_5) % 256, a0_1, a0_2, 0, 0] : List Int)) (inner := [.int .u8 (Go.bits .or .u8 64 ((wrap64 (Int.tdiv (wrap64 (20 + (l0_8.length : Int))) 4)) % 256)), .int .u8 a0_0, .int .u8 (((wrap64 ((wrap64 (20 + (l0_8.length : Int))) + (l0_9.length : Int))) / 256) % 256), .int .u8 ((wrap64 ((wrap64 (20 + (l0_8.length : Int))) + (l0_9.length : Int))) % 256), .int .u8 ((a0_3 / 256) % 256), .int .u8 ((a0_3) % 256), .int .u8 (((Go.bits .or .u16 (IntKind.u16.wrap ((IntKind.u16.wrap (a0_4)) * 8192)) a0_5) / 256) % 256), .int .u8 ((Go.bits .or .u16 (IntKind.u16.wrap ((IntKind.u16.wrap (a0_4)) * 8192)) a0_5) % 256), .int .u8 a0_1, .int .u8 a0_2, .int .u8 0, .int .u8 0]) (ok := fun _ => True) (okp := fun _ => True) ?hr ?hp (fun _ hk => hk) trivial (Below.refl _ _) (Nat.le_refl _) (by simp) ?_; (case hd => rfl); (case hg => rfl); (case hr => first | (go_simp; done) | (go_simp; simp only [IntKind.wrap_u8, IntKind.wrap_u16, IntKind.wrap_u32]; done) | (go_simp; rfl)); (case hp => exact (Reps.one (show Kd.M (Kd.int .u8) _ _ _ (Go.bits .or .u8 64 ((wrap64 (Int.tdiv (wrap64 (20 + (l0_8.length : Int))) 4)) % 256)) [.int .u8 (Go.bits .or .u8 64 ((wrap64 (Int.tdiv (wrap64 (20 + (l0_8.length : Int))) 4)) % 256))] from rfl) (Reps.one (show Kd.M (Kd.int .u8) _ _ _ a0_0 [.int .u8 a0_0] from rfl) (Reps.one (show Kd.M (Kd.int .u8) _ _ _ (((wrap64 ((wrap64 (20 + (l0_8.length : Int))) + (l0_9.length : Int))) / 256) % 256) [.int .u8 (((wrap64 ((wrap64 (20 + (l0_8.length : Int))) + (l0_9.length : Int))) / 256) % 256)] from rfl) (Reps.one (show Kd.M (Kd.int .u8) _ _ _ ((wrap64 ((wrap64 (20 + (l0_8.length : Int))) + (l0_9.length : Int))) % 256) [.int .u8 ((wrap64 ((wrap64 (20 + (l0_8.length : Int))) + (l0_9.length : Int))) % 256)] from rfl) (Reps.one (show Kd.M (Kd.int .u8) _ _ _ ((a0_3 / 256) % 256) [.int .u8 ((a0_3 / 256) % 256)] from rfl) (Reps.one (show Kd.M (Kd.int .u8) _ _ _ ((a0_3) % 256) [.int .u8 ((a0_3) % 256)] from rfl) (Reps.one (show Kd.M (Kd.int .u8) _ _ _ (((Go.bits .or .u16 (IntKind.u16.wrap ((IntKind.u16.wrap (a0_4)) * 8192)) a0_5) / 256) % 256) [.int .u8 (((Go.bits .or .u16 (IntKind.u16.wrap ((IntKind.u16.wrap (a0_4)) * 8192)) a0_5) / 256) % 256)] from rfl) (Reps.one (show Kd.M (Kd.int .u8) _ _ _ ((Go.bits .or .u16 (IntKind.u16.wrap ((IntKind.u16.wrap (a0_4)) * 8192)) a0_5) % 256) [.int .u8 ((Go.bits .or .u16 (IntKind.u16.wrap ((IntKind.u16.wrap (a0_4)) * 8192)) a0_5) % 256)] from rfl) (Reps.one (show Kd.M (Kd.int .u8) _ _ _ a0_1 [.int .u8 a0_1] from rfl) (Reps.one (show Kd.M (Kd.int .u8) _ _ _ a0_2 [.int .u8 a0_2] from rfl) (Reps.one (show Kd.M (Kd.int .u8) _ _ _ 0 [.int .u8 0] from rfl) (Reps.one (show Kd.M (Kd.int .u8) _ _ _ 0 [.int .u8 0] from rfl) (Reps.none _ _)))))))))))))); intro v154 w16 ho17 hb hg_ hnew_; clear hg_ hnew_; (first | rw [← Ny153.out] at ho17 | (simp only [Int.reduceToNat] at ho17; rw [← Ny153.out] at ho17)); have n0_ := Aside0.mk (Kd.R_lower ho17 (below_size (bz HB))); have n1_ := Aside0.mk (blk_below (kz BK152) hb); have n2_ := Aside0.mk (below_step (bz HB) hb); clear BK152; clear HB; have HO155 := n0_; have BK152 := n1_; have HB := n2_; clear n0_ n1_ n2_; clear hb ho17; have hcz18_0 : w16.cell? ⟨gb152, 0, none⟩ = some (.int .u8 a0_0) := cz BK152.out 0 rfl; have hcz18_1 : w16.cell? ⟨gb152, 1, none⟩ = some (.int .u8 a0_1) := cz BK152.out 1 rfl; have hcz18_2 : w16.cell? ⟨gb152, 2, none⟩ = some (.int .u8 a0_2) := cz BK152.out 2 rfl; have hcz18_3 : w16.cell? ⟨gb152, 3, none⟩ = some (.int .u16 a0_3) := cz BK152.out 3 rfl; have hcz18_4 : w16.cell? ⟨gb152, 4, none⟩ = some (.int .u8 a0_4) := cz BK152.out 4 rfl; have hcz18_5 : w16.cell? ⟨gb152, 5, none⟩ = some (.int .u16 a0_5) := cz BK152.out 5 rfl; have hcz18_6 : w16.cell? ⟨gb152, 6, none⟩ = some (.int .u32 a0_6) := cz BK152.out 6 rfl; have hcz18_7 : w16.cell? ⟨gb152, 7, none⟩ = some (.int .u32 a0_7) := cz BK152.out 7 rfl; have hcz18_8 : w16.cell? ⟨gb152, 8, none⟩ = some (.slice A0_8 l0_8.length c0_8) := cz BK152.out 8 rfl; have hcz18_9 : w16.cell? ⟨gb152, 9, none⟩ = some (.slice A0_9 l0_9.length c0_9) := cz BK152.out 9 rfl; have hfz18_0 := blk_frozen BK152.out 0; have hfz18_1 := blk_frozen BK152.out 1; have hfz18_2 := blk_frozen BK152.out 2; have hfz18_3 := blk_frozen BK152.out 3; have hfz18_4 := blk_frozen BK152.out 4; have hfz18_5 := blk_frozen BK152.out 5; have hfz18_6 := blk_frozen BK152.out 6; have hfz18_7 := blk_frozen BK152.out 7; have hfz18_8 := blk_frozen BK152.out 8; have hfz18_9 := blk_frozen BK152.out 9) | ((with_reducible refine gate_dst (N := 88) rfl ?_); (try (refine gate_guard (by rfl) ?_; dsimp only)); refine Kd.R_lit (Kd.int .u32) _ 27 ?hg (N := 88) ?hd (xs := ([a0_6, a0_7] : List Int)) (inner := [.int .u32 a0_6, .int .u32 a0_7]) (ok := fun _ => True) (okp := fun _ => True) ?hr ?hp (fun _ hk => hk) trivial (Below.refl _ _) (Nat.le_refl _) (by simp) ?_; (case hd => rfl); (case hg => rfl); (case hr => first | (go_simp; done) | (go_simp; rfl)); (case hp => exact (Reps.one (show Kd.M (Kd.int .u32) _ _ _ a0_6 [.int .u32 a0_6] from rfl) (Reps.one (show Kd.M (Kd.int .u32) _ _ _ a0_7 [.int .u32 a0_7] from rfl) (Reps.none _ _)))); intro v157 w19 ho20 hb hg_ hnew_; clear hg_ hnew_; (first | rw [← Ny156.out] at ho20 | (simp only [Int.reduceToNat] at ho20; rw [← Ny156.out] at ho20)); have n0_ := Aside0.mk (Kd.R_below (Kd.rz HO155) hb); have n1_ := Aside0.mk (Kd.R_lower ho20 (below_size (bz HB))); have n2_ := Aside0.mk (blk_below (kz BK152) hb); have n3_ := Aside0.mk (below_step (bz HB) hb); clear HO155; clear BK152; clear HB; have HO155 := n0_; have HO158 := n1_; have BK152 := n2_; have HB := n3_; clear n0_ n1_ n2_ n3_; clear hb ho20; obtain ⟨Ao21, co21, eo21⟩ := Kd.R_slice HO158.out; subst eo21)))
     go_loopg [7, 90] kj1 (fun kq v7 v90 w' => ∃ (x7_2 : List Int) (x90_2 : Int), v90 = .int .i64 x90_2 ∧ Aside0 (ip_Bytes.l0 kq x7_2 y156 (y156.length : Int) x90_2 a0_0 a0_1 a0_2 a0_3 a0_4 a0_5 a0_6 a0_7 l0_8 l0_9 = some (r1, r2)) ∧ Aside0 (kq ≤ kj1) ∧ Aside0 (Kd.R (Kd.int .u8) 5 w' w.heap.size (fun _ => True) v7 x7_2) ∧ Aside0 (Kd.R (Kd.int .u32) 27 w' w.heap.size (fun _ => True) (.slice Ao21 y156.length co21) y156) ∧ Aside0 (w'.heap[gb152]? = some (.cells #[.int .u8 a0_0, .int .u8 a0_1, .int .u8 a0_2, .int .u16 a0_3, .int .u8 a0_4, .int .u16 a0_5, .int .u32 a0_6, .int .u32 a0_7, (.slice A0_8 l0_8.length c0_8), (.slice A0_9 l0_9.length c0_9)] 73 (0, 0))) ∧ Aside0 (Below w.heap.size w w'))
     case atStart => exact ⟨(y153), (0), (by first | rfl | (simp; done) | (simp [*]; done)), H', ⟨Nat.le_refl _⟩, ⟨Kd.rz HO155⟩, ⟨Kd.rz HO158⟩, ⟨kz BK152⟩, ⟨bz HB⟩⟩
     case round =>
      clear H'
      try clear c12
      try clear c13
      try clear c13b0
      try clear hcz15_0_
      try clear hcz18_0
      try clear hcz18_1
      try clear hcz18_2
      try clear hcz18_3
      try clear hcz18_4
      try clear hcz18_5
      try clear hcz18_6
      try clear hcz18_7
      try clear hcz18_8
      try clear hcz18_9
      try clear hcz4_0
      try clear hcz4_1
      try clear hcz4_2
      try clear hcz4_3
      try clear hcz4_4
      try clear hcz4_5
      try clear hcz4_6
      try clear hcz4_7
      try clear hcz4_8
      try clear hcz4_9
      try clear hfz15_0_
      try clear hfz18_0
      try clear hfz18_1
      try clear hfz18_2
      try clear hfz18_3
      try clear hfz18_4
      try clear hfz18_5
      try clear hfz18_6
      try clear hfz18_7
      try clear hfz18_8
      try clear hfz18_9
      try clear hfz4_0
      try clear hfz4_1
      try clear hfz4_2
      try clear hfz4_3
      try clear hfz4_4
      try clear hfz4_5
      try clear hfz4_6
      try clear hfz4_7
      try clear hfz4_8
      try clear hfz4_9
      obtain ⟨x7_2, x90_2, rfl, HA, HK2, HO_7, HO_88, BK152, HB⟩ := hrel
      cases gk with
      | zero => exact absurd HA.out (by simp [ip_Bytes.l0])
      | succ k2 =>
       have H := HA.out
       clear HA
       simp only [ip_Bytes.l0] at H
       by_cases c22 : x90_2 < (y156.length : Int)
       ·rw [if_pos c22] at H
        have c22b0 : decide (x90_2 < (y156.length : Int)) = true := decide_eq_true c22
        clear c22
        by_cases c23 : 0 ≤ x90_2
        ·rw [if_pos c23] at H
         have c23b0 : decide (0 ≤ x90_2) = true := decide_eq_true c23
         clear c23
         by_cases c24 : x90_2 < (y156.length : Int)
         ·rw [if_pos c24] at H
          have c24b0 : decide (x90_2 < (y156.length : Int)) = true := decide_eq_true c24
          clear c24
          obtain ⟨y160, hy160⟩ : ∃ y_ : List Int, y_ = (([((rd y156 x90_2) / 16777216) % 256, ((rd y156 x90_2) / 65536) % 256, ((rd y156 x90_2) / 256) % 256, (rd y156 x90_2) % 256] : List Int)) := ⟨_, rfl⟩
          replace H : (if x7_2.length + y160.length < 140737488355328 then (ip_Bytes.l0 k2 (x7_2 ++ y160) y156 (y156.length : Int) (wrap64 (x90_2 + 1)) a0_0 a0_1 a0_2 a0_3 a0_4 a0_5 a0_6 a0_7 l0_8 l0_9) else (none)) = some (r1, r2) := by first | (rw [hy160]; with_reducible exact H) | (have H2_ := (Option.bind_some _ _).symm.trans H; rw [hy160]; with_reducible exact H2_) | (have H2_ := (Option.bind_some _ _).symm.trans H; with_reducible exact H2_) | with_reducible exact H | (rw [hy160]; exact H) | exact H
          have Ny160 := Aside0.mk hy160
          clear hy160
          by_cases c25 : x7_2.length + y160.length < 140737488355328
          ·rw [if_pos c25] at H
           have LMc25 := Aside0.mk c25
           clear c25
           obtain ⟨y163, hy163⟩ : ∃ y_ : List Int, y_ = (x7_2 ++ y160) := ⟨_, rfl⟩
           replace H : (ip_Bytes.l0 k2 y163 y156 (y156.length : Int) (wrap64 (x90_2 + 1)) a0_0 a0_1 a0_2 a0_3 a0_4 a0_5 a0_6 a0_7 l0_8 l0_9) = some (r1, r2) := by first | (rw [hy163]; with_reducible exact H) | (have H2_ := (Option.bind_some _ _).symm.trans H; rw [hy163]; with_reducible exact H2_) | (have H2_ := (Option.bind_some _ _).symm.trans H; with_reducible exact H2_) | with_reducible exact H | (rw [hy163]; exact H) | exact H
           have Ny163 := Aside0.mk hy163
           clear hy163
           have H' := Aside0.mk H
           clear H
           have p159 : 0 ≤ (x90_2 : Int) := of_decide_eq_true (by first | (with_reducible assumption) | assumption)
           have q159 : x90_2 < (y156.length : Int) := of_decide_eq_true (by first | (with_reducible assumption) | assumption)
           obtain ⟨ad159, e159, hx159_0⟩ := Kd.at_int (Kd.R_reads' HO_88.out).2.2 x90_2 p159 q159
           cases e159
           replace p159 := eq_true p159
           replace q159 := eq_true q159
           go_wp2_with (first | ((with_reducible refine gate_dst (N := 106) rfl ?_); (try (refine gate_guard (by rfl) ?_; dsimp only)); refine Kd.R_lit (Kd.int .u8) _ 5 ?hg (N := 106) ?hd (xs := ([((rd y156 x90_2) / 16777216) % 256, ((rd y156 x90_2) / 65536) % 256, ((rd y156 x90_2) / 256) % 256, (rd y156 x90_2) % 256] : List Int)) (inner := [.int .u8 (((rd y156 x90_2) / 16777216) % 256), .int .u8 (((rd y156 x90_2) / 65536) % 256), .int .u8 (((rd y156 x90_2) / 256) % 256), .int .u8 ((rd y156 x90_2) % 256)]) (ok := fun _ => True) (okp := fun _ => True) ?hr ?hp (fun _ hk => hk) trivial (Below.refl _ _) (Nat.le_refl _) (by simp) ?_; (case hd => rfl); (case hg => rfl); (case hr => first | (go_simp; done) | (go_simp; simp only [IntKind.wrap_u8, IntKind.wrap_u16, IntKind.wrap_u32]; done) | (go_simp; rfl)); (case hp => exact (Reps.one (show Kd.M (Kd.int .u8) _ _ _ (((rd y156 x90_2) / 16777216) % 256) [.int .u8 (((rd y156 x90_2) / 16777216) % 256)] from rfl) (Reps.one (show Kd.M (Kd.int .u8) _ _ _ (((rd y156 x90_2) / 65536) % 256) [.int .u8 (((rd y156 x90_2) / 65536) % 256)] from rfl) (Reps.one (show Kd.M (Kd.int .u8) _ _ _ (((rd y156 x90_2) / 256) % 256) [.int .u8 (((rd y156 x90_2) / 256) % 256)] from rfl) (Reps.one (show Kd.M (Kd.int .u8) _ _ _ ((rd y156 x90_2) % 256) [.int .u8 ((rd y156 x90_2) % 256)] from rfl) (Reps.none _ _)))))); intro v161 w26 ho27 hb hg_ hnew_; clear hg_ hnew_; (first | rw [← Ny160.out] at ho27 | (simp only [Int.reduceToNat] at ho27; rw [← Ny160.out] at ho27)); have n0_ := Aside0.mk (Kd.R_elder' (Kd.rz HO_7) (Kd.R_base ho27) hb); have n1_ := Aside0.mk (Kd.R_below (Kd.rz HO_88) hb); have n2_ := Aside0.mk (Kd.R_lower (Kd.R_new' ho27 (Kd.R_lt (Kd.rz HO_7))) (below_size (bz HB))); have n3_ := Aside0.mk (blk_below (kz BK152) hb); have n4_ := Aside0.mk (below_step (bz HB) hb); clear HO_7; clear HO_88; clear BK152; clear HB; have HO_7 := n0_; have HO_88 := n1_; have HO162 := n2_; have BK152 := n3_; have HB := n4_; clear n0_ n1_ n2_ n3_ n4_; clear hb ho27; obtain ⟨Ao29, co29, eo29⟩ := Kd.R_slice HO162.out; subst eo29) | ((with_reducible refine gate_builtin (b := .append) (xs := #[.tmp 94, .tmp 106]) rfl ?_); (try (refine gate_guard (by rfl) ?_; dsimp only)); at_builtin; refine Kd.R_append_rows (Kd.int .u8) (w0 := w) w.heap.size rfl (.tmp 94) (.tmp 106) 23 5 (.int .u8 0) 1 rfl Try.underlying23 info5 rfl (by decide) (by omega) u7 x7_2 y160 _ _ _ (fun k_ => some k_ ≠ (.slice Ao29 y160.length co29 : Value).ownBlock) (fun _ => False) rfl rfl ?aO ?aR (fun _ _ h => h) (fun _ h => h.elim) ?aF ?aB ?aS ?aL ?_; (case aR => repeat (first | exact (Kd.R_reads' HO162.out).2.2 | (with_reducible refine Kd.C_alloc ?_ _) | (with_reducible refine Kd.C_drewN ?_ _) | (with_reducible refine Kd.C_drew ?_))); (case aB => exact bz HB); (case aF => exact (fun k_ hk => Kd.fresh' (Kd.R_lt (Kd.rz HO162)) k_ hk)); (case aO => exact (by (with_reducible repeat (first | apply Kd.R_alloc | apply Kd.R_drewN | apply Kd.R_drew)); exact Kd.R_mono HO_7.out (fun _ hk => hk.2))); (case aS => exact (below_size (bz HB))); (case aL => have := LMc25.out; omega); intro v164 w28 ho hb hg hat; rw [← Ny163.out] at ho; have n0_ := Aside0.mk (Kd.R_over' (Kd.rz HO_88) (Kd.R_typed (Kd.rz HO_7)) (by decide) hg); have n1_ := Aside0.mk (blk_grown (kz BK152) hg (Kd.R_ne HO_7.out BK152.out (by decide))); have n2_ := Aside0.mk (Kd.R_after (ok := (fun _ => True)) (Kd.rz HO162) hg hat); have n3_ := Aside0.mk (hb); have n4_ := Aside0.mk (ho); clear HO_88; clear BK152; clear HO162; clear HB; clear HO_7; have HO_88 := n0_; have BK152 := n1_; have HO162 := n2_; have HB := n3_; have HO165 := n4_; clear n0_ n1_ n2_ n3_ n4_; clear ho hb hg hat))
           go_roundg k2
           case measure => have := HJ1.out; have := HK2.out; omega
           case rel => exact ⟨(y163), (wrap64 (x90_2 + 1)), (by first | rfl | (simp; done) | (simp [*]; done)), H', ⟨by have := HJ1.out; have := HK2.out; omega⟩, ⟨by (with_reducible repeat (first | apply Kd.R_alloc | apply Kd.R_drewN | apply Kd.R_drew)); exact Kd.R_mono HO165.out (fun _ hk => trivial)⟩, ⟨Kd.rz HO_88⟩, ⟨kz BK152⟩, ⟨bz HB⟩⟩
          ·rw [if_neg c25] at H
           exact absurd H (by simp)
         ·rw [if_neg c24] at H
          exact absurd H (by simp)
        ·rw [if_neg c23] at H
         exact absurd H (by simp)
       ·rw [if_neg c22] at H
        have c22b0 : decide (x90_2 < (y156.length : Int)) = false := decide_eq_false c22
        clear c22
        by_cases c30 : x7_2.length + l0_8.length < 140737488355328
        ·rw [if_pos c30] at H
         have LMc30 := Aside0.mk c30
         clear c30
         obtain ⟨y166, hy166⟩ : ∃ y_ : List Int, y_ = (x7_2 ++ l0_8) := ⟨_, rfl⟩
         replace H : ((sum_Of.f k2 y166).bind fun t169 => (if 10 < (y166.length : Int) then (if 11 < (y166.length : Int) then ((some ((y166.set (10 : Int).toNat ((t169 / 256) % 256)).set (11 : Int).toNat ((t169) % 256) : List Int)).bind fun y171 => (if y171.length + l0_9.length < 140737488355328 then (some ((y171 ++ l0_9), 0)) else (none))) else (none)) else (none))) = some (r1, r2) := by first | (rw [hy166]; with_reducible exact H) | (have H2_ := (Option.bind_some _ _).symm.trans H; rw [hy166]; with_reducible exact H2_) | (have H2_ := (Option.bind_some _ _).symm.trans H; with_reducible exact H2_) | with_reducible exact H | (rw [hy166]; exact H) | exact H
         have Ny166 := Aside0.mk hy166
         clear hy166
         replace H := Option.bind_eq_some_iff.mp H
         obtain ⟨t169, A310, H⟩ := H
         replace H : (if 10 < (y166.length : Int) then (if 11 < (y166.length : Int) then ((some ((y166.set (10 : Int).toNat ((t169 / 256) % 256)).set (11 : Int).toNat ((t169) % 256) : List Int)).bind fun y171 => (if y171.length + l0_9.length < 140737488355328 then (some ((y171 ++ l0_9), 0)) else (none))) else (none)) else (none)) = some (r1, r2) := H
         have A31 := Aside0.mk A310
         clear A310
         by_cases c32 : 10 < (y166.length : Int)
         ·rw [if_pos c32] at H
          have c32b0 : decide (10 < (y166.length : Int)) = true := decide_eq_true c32
          have c32b1 : decide (10 < y166.length) = true := decide_eq_true (by omega)
          clear c32
          obtain ⟨y170, hy170⟩ : ∃ y_ : List Int, y_ = (y166.set (10 : Int).toNat ((t169 / 256) % 256)) := ⟨_, rfl⟩
          replace H : (if 11 < (y166.length : Int) then ((some (y170.set (11 : Int).toNat ((t169) % 256) : List Int)).bind fun y171 => (if y171.length + l0_9.length < 140737488355328 then (some ((y171 ++ l0_9), 0)) else (none))) else (none)) = some (r1, r2) := by first | (rw [hy170]; with_reducible exact H) | (have H2_ := (Option.bind_some _ _).symm.trans H; rw [hy170]; with_reducible exact H2_) | (have H2_ := (Option.bind_some _ _).symm.trans H; with_reducible exact H2_) | with_reducible exact H | (rw [hy170]; exact H) | exact H
          have Ny170 := Aside0.mk hy170
          clear hy170
          by_cases c34 : 11 < (y166.length : Int)
          ·rw [if_pos c34] at H
           have c34b0 : decide (11 < (y166.length : Int)) = true := decide_eq_true c34
           have c34b1 : decide (11 < y166.length) = true := decide_eq_true (by omega)
           clear c34
           obtain ⟨y171, hy171⟩ : ∃ y_ : List Int, y_ = (y170.set (11 : Int).toNat ((t169) % 256)) := ⟨_, rfl⟩
           replace H : (if y171.length + l0_9.length < 140737488355328 then (some ((y171 ++ l0_9), 0)) else (none)) = some (r1, r2) := by first | (rw [hy171]; with_reducible exact H) | (have H2_ := (Option.bind_some _ _).symm.trans H; rw [hy171]; with_reducible exact H2_) | (have H2_ := (Option.bind_some _ _).symm.trans H; with_reducible exact H2_) | with_reducible exact H | (rw [hy171]; exact H) | exact H
           have Ny171 := Aside0.mk hy171
           clear hy171
           by_cases c36 : y171.length + l0_9.length < 140737488355328
           ·rw [if_pos c36] at H
            have LMc36 := Aside0.mk c36
            clear c36
            obtain ⟨y172, hy172⟩ : ∃ y_ : List Int, y_ = (y171 ++ l0_9) := ⟨_, rfl⟩
            replace H : (some (y172, 0)) = some (r1, r2) := by first | (rw [hy172]; with_reducible exact H) | (have H2_ := (Option.bind_some _ _).symm.trans H; rw [hy172]; with_reducible exact H2_) | (have H2_ := (Option.bind_some _ _).symm.trans H; with_reducible exact H2_) | with_reducible exact H | (rw [hy172]; exact H) | exact H
            have Ny172 := Aside0.mk hy172
            clear hy172
            simp only [Option.some.injEq, Prod.mk.injEq] at H
            obtain ⟨rfl, rfl⟩ := H
            have hcz37_0_ := cs10 BK152.out
            have hfz37_0_ := blk_frozen BK152.out
            go_wp2_with (first | ((with_reducible refine gate_builtin (b := .append) (xs := #[.tmp 109, .tmp 111]) rfl ?_); (try (refine gate_guard (by rfl) ?_; dsimp only)); at_builtin; refine Kd.R_append_rows (Kd.int .u8) (w0 := w) w.heap.size rfl (.tmp 109) (.tmp 111) 23 5 (.int .u8 0) 1 rfl Try.underlying23 info5 rfl (by decide) (by omega) u7 x7_2 l0_8 _ _ _ (fun _ => True) (fun _ => False) rfl rfl ?aO ?aR (fun _ _ h => h) (fun _ h => h.elim) ?aF ?aB ?aS ?aL ?_; (case aR => exact Kd.C_below HR0_8.out (bz HB)); (case aB => exact bz HB); (case aF => exact (fun _ _ => trivial)); (case aO => exact (Kd.rz HO_7)); (case aS => exact (below_size (bz HB))); (case aL => have := LMc30.out; omega); intro v167 w38 ho hb hg hat; rw [← Ny166.out] at ho; have n0_ := Aside0.mk (Kd.R_over' (Kd.rz HO_88) (Kd.R_typed (Kd.rz HO_7)) (by decide) hg); have n1_ := Aside0.mk (blk_grown (kz BK152) hg (Kd.R_ne HO_7.out BK152.out (by decide))); have n2_ := Aside0.mk (hb); have n3_ := Aside0.mk (ho); clear HO_88; clear BK152; clear HB; clear HO_7; have HO_88 := n0_; have BK152 := n1_; have HB := n2_; have HO168 := n3_; clear n0_ n1_ n2_ n3_; clear ho hb hg hat; obtain ⟨Ao39, co39, eo39⟩ := Kd.R_slice HO168.out; subst eo39) | (go_at_call 90; (with_reducible refine (sum_Of.calls k2 _ _ y166 t169 _ ?side1 ?side2 A31.out).mono ?_); (case side1 => repeat (first | exact (Kd.R_reads' HO168.out).2.2 | (with_reducible refine Kd.C_alloc ?_ _) | (with_reducible refine Kd.C_drewN ?_ _) | (with_reducible refine Kd.C_drew ?_))); (case side2 => exact (Kd.R_reads' HO168.out).2.1); rintro e w40 ⟨rfl, hb⟩; have n0_ := Aside0.mk (Kd.R_below (Kd.rz HO_88) hb); have n1_ := Aside0.mk (Kd.R_below (Kd.rz HO168) hb); have n2_ := Aside0.mk (blk_below (kz BK152) hb); have n3_ := Aside0.mk (below_step (bz HB) hb); clear HO_88; clear HO168; clear BK152; clear HB; have HO_88 := n0_; have HO168 := n1_; have BK152 := n2_; have HB := n3_; clear n0_ n1_ n2_ n3_; (try clear hb); (try clear hb2); (try clear hk); (try clear hi); have p33 : 0 ≤ (10 : Int) := (by omega); have q33 : (10 : Int) < ((y166.length : Int) : Int) := of_decide_eq_true (by first | (with_reducible assumption) | assumption); have qi33 : (10 < y166.length) = True := eq_true (by omega); obtain ⟨go33, co33, eo33, gb33, gl33, cl33, HG33⟩ := Kd.R_form HO168.out (by omega); (first | cases eo33 | (injection eo33 with ea_ en_ ec_; (first | subst ea_ | (injection ea_ with ea_; subst ea_)); subst ec_; clear en_)); have GB33 := Aside0.mk gb33; have GG33 := Aside0.mk HG33; clear gb33 gl33 HG33; obtain ⟨hx33_0, hf33_0⟩ := Kd.R_celln 0 HO168.out (10 : Int) p33 q33; (try rw [show ((10 : Int)).toNat = 10 from rfl] at hx33_0); (try simp only [Nat.reduceMul, Nat.zero_mul, Nat.zero_add, Nat.reduceAdd] at hx33_0); (try rw [show ((10 : Int)).toNat = 10 from rfl] at hf33_0); (try simp only [Nat.reduceMul, Nat.zero_mul, Nat.zero_add, Nat.reduceAdd] at hf33_0); replace p33 := eq_true p33; replace q33 := eq_true q33; obtain ⟨hy41_, hz41_⟩ := Kd.R_celln 0 HO168.out (10 : Int) (by omega) (of_decide_eq_true (by first | (with_reducible assumption) | assumption)); (try simp only [Int.reduceToNat, Int.toNat_zero, Int.toNat_ofNat, Nat.reduceMul, Nat.zero_mul, Nat.zero_add] at hy41_ hz41_); (try rw [show ((10 : Int)).toNat = 10 from rfl] at hy41_); (try rw [show ((10 : Int)).toNat = 10 from rfl] at hz41_); have HP41 := Kd.R_putg HO168.out (10 : Int) ((t169 / 256) % 256)) | ((with_reducible refine gate_store (t := 5) (p := 122) rfl ?_); (try (rw [drewN_self w40]; generalize hq_ : World.drewN w40 _ = w40; have n0_ := Aside0.mk (Kd.R_at hq_ HO_88.out); have n1_ := Aside0.mk (Kd.R_at hq_ HO168.out); have n2_ := Aside0.mk (blk_at hq_ BK152.out); have n3_ := Aside0.mk (below_at hq_ HB.out); clear hq_ HO_88 HO168 BK152 HB; have HO_88 := n0_; have HO168 := n1_; have BK152 := n2_; have HB := n3_; clear n0_ n1_ n2_ n3_; (try (obtain ⟨hy41_, hz41_⟩ := Kd.R_celln 0 HO168.out (10 : Int) (by omega) (of_decide_eq_true (by first | (with_reducible assumption) | assumption)))); (try (try simp only [Int.reduceToNat, Int.toNat_zero, Int.toNat_ofNat, Nat.reduceMul, Nat.zero_mul, Nat.zero_add] at hy41_ hz41_)); (try (try rw [show ((10 : Int)).toNat = 10 from rfl] at hy41_)); (try (try rw [show ((10 : Int)).toNat = 10 from rfl] at hz41_)); (try (have HP41 := Kd.R_putg HO168.out (10 : Int) ((t169 / 256) % 256))))); refine store_event (t := 5) (p := 122) (v := ?vo_w42) (w1 := (w40.setCell ⟨go33, (10 : Int).toNat, none⟩ (.int .u8 ((t169 / 256) % 256)))) ?hg ?ho ?hn ?hr ?_; (case ho => rfl); (case hg => rfl); (case hn => rfl); (case hr => first | (go_simp; done) | (go_simp; rfl)); intro w42 hw; have hg : w40.grownBy w42 (some go33) := (by rw [hw]; exact HP41.2); have hp_ : Kd.R (Kd.int .u8) 5 w42 w.heap.size (fun _ => True) (.slice (some ⟨go33, 0, none⟩) y166.length co39) y170 := (by rw [hw, Ny170.out]; exact HP41.1); clear HP41; have n0_ := Aside0.mk (Kd.R_over' (v := (.slice (some ⟨go33, 0, none⟩) y166.length co39)) (Kd.rz HO_88) (Kd.R_typed HO168.out) (by decide) hg); have n1_ := Aside0.mk (blk_grown (kz BK152) hg (Kd.R_ne HO168.out BK152.out (by decide))); have n2_ := Aside0.mk (hp_); have n3_ := Aside0.mk ((by rw [hw]; exact below_set (HB.out) GB33.out : Below w.heap.size w w42)); clear HO_88; clear BK152; clear HO168; clear HB; have HO_88 := n0_; have BK152 := n1_; have HO168 := n2_; have HB := n3_; clear n0_ n1_ n2_ n3_; clear hg hw hp_; have p35 : 0 ≤ (11 : Int) := (by omega); have q35 : (11 : Int) < ((y166.length : Int) : Int) := of_decide_eq_true (by first | (with_reducible assumption) | assumption); have qi35 : (11 < y166.length) = True := eq_true (by omega); obtain ⟨hx35_0, hf35_0⟩ := Kd.R_celln 0 HO168.out (11 : Int) p35 q35; (try rw [show ((11 : Int)).toNat = 11 from rfl] at hx35_0); (try simp only [Nat.reduceMul, Nat.zero_mul, Nat.zero_add, Nat.reduceAdd] at hx35_0); (try rw [show ((11 : Int)).toNat = 11 from rfl] at hf35_0); (try simp only [Nat.reduceMul, Nat.zero_mul, Nat.zero_add, Nat.reduceAdd] at hf35_0); replace p35 := eq_true p35; replace q35 := eq_true q35; obtain ⟨hy43_, hz43_⟩ := Kd.R_celln 0 HO168.out (11 : Int) (by omega) (of_decide_eq_true (by first | (with_reducible assumption) | assumption)); (try simp only [Int.reduceToNat, Int.toNat_zero, Int.toNat_ofNat, Nat.reduceMul, Nat.zero_mul, Nat.zero_add] at hy43_ hz43_); (try rw [show ((11 : Int)).toNat = 11 from rfl] at hy43_); (try rw [show ((11 : Int)).toNat = 11 from rfl] at hz43_); have HP43 := Kd.R_putg HO168.out (11 : Int) ((t169) % 256)) | ((with_reducible refine gate_store (t := 5) (p := 123) rfl ?_); (try (rw [drewN_self w42]; generalize hq_ : World.drewN w42 _ = w42; have n0_ := Aside0.mk (Kd.R_at hq_ HO_88.out); have n1_ := Aside0.mk (Kd.R_at hq_ HO168.out); have n2_ := Aside0.mk (blk_at hq_ BK152.out); have n3_ := Aside0.mk (below_at hq_ HB.out); clear hq_ HO_88 HO168 BK152 HB; have HO_88 := n0_; have HO168 := n1_; have BK152 := n2_; have HB := n3_; clear n0_ n1_ n2_ n3_; (try (obtain ⟨hy43_, hz43_⟩ := Kd.R_celln 0 HO168.out (11 : Int) (by omega) (of_decide_eq_true (by first | (with_reducible assumption) | assumption)))); (try (try simp only [Int.reduceToNat, Int.toNat_zero, Int.toNat_ofNat, Nat.reduceMul, Nat.zero_mul, Nat.zero_add] at hy43_ hz43_)); (try (try rw [show ((11 : Int)).toNat = 11 from rfl] at hy43_)); (try (try rw [show ((11 : Int)).toNat = 11 from rfl] at hz43_)); (try (have HP43 := Kd.R_putg HO168.out (11 : Int) ((t169) % 256))))); refine store_event (t := 5) (p := 123) (v := ?vo_w44) (w1 := (w42.setCell ⟨go33, (11 : Int).toNat, none⟩ (.int .u8 ((t169) % 256)))) ?hg ?ho ?hn ?hr ?_; (case ho => rfl); (case hg => rfl); (case hn => rfl); (case hr => first | (go_simp; done) | (go_simp; rfl)); intro w44 hw; have hg : w42.grownBy w44 (some go33) := (by rw [hw]; exact HP43.2); have hp_ : Kd.R (Kd.int .u8) 5 w44 w.heap.size (fun _ => True) (.slice (some ⟨go33, 0, none⟩) y166.length co39) y171 := (by rw [hw, Ny171.out]; exact HP43.1); clear HP43; have n0_ := Aside0.mk (Kd.R_over' (v := (.slice (some ⟨go33, 0, none⟩) y166.length co39)) (Kd.rz HO_88) (Kd.R_typed HO168.out) (by decide) hg); have n1_ := Aside0.mk (blk_grown (kz BK152) hg (Kd.R_ne HO168.out BK152.out (by decide))); have n2_ := Aside0.mk (hp_); have n3_ := Aside0.mk ((by rw [hw]; exact below_set (HB.out) GB33.out : Below w.heap.size w w44)); clear HO_88; clear BK152; clear HO168; clear HB; have HO_88 := n0_; have BK152 := n1_; have HO168 := n2_; have HB := n3_; clear n0_ n1_ n2_ n3_; clear hg hw hp_; have hcz45_0 : w44.cell? ⟨gb152, 0, none⟩ = some (.int .u8 a0_0) := cz BK152.out 0 rfl; have hcz45_1 : w44.cell? ⟨gb152, 1, none⟩ = some (.int .u8 a0_1) := cz BK152.out 1 rfl; have hcz45_2 : w44.cell? ⟨gb152, 2, none⟩ = some (.int .u8 a0_2) := cz BK152.out 2 rfl; have hcz45_3 : w44.cell? ⟨gb152, 3, none⟩ = some (.int .u16 a0_3) := cz BK152.out 3 rfl; have hcz45_4 : w44.cell? ⟨gb152, 4, none⟩ = some (.int .u8 a0_4) := cz BK152.out 4 rfl; have hcz45_5 : w44.cell? ⟨gb152, 5, none⟩ = some (.int .u16 a0_5) := cz BK152.out 5 rfl; have hcz45_6 : w44.cell? ⟨gb152, 6, none⟩ = some (.int .u32 a0_6) := cz BK152.out 6 rfl; have hcz45_7 : w44.cell? ⟨gb152, 7, none⟩ = some (.int .u32 a0_7) := cz BK152.out 7 rfl; have hcz45_8 : w44.cell? ⟨gb152, 8, none⟩ = some (.slice A0_8 l0_8.length c0_8) := cz BK152.out 8 rfl; have hcz45_9 : w44.cell? ⟨gb152, 9, none⟩ = some (.slice A0_9 l0_9.length c0_9) := cz BK152.out 9 rfl; have hfz45_0 := blk_frozen BK152.out 0; have hfz45_1 := blk_frozen BK152.out 1; have hfz45_2 := blk_frozen BK152.out 2; have hfz45_3 := blk_frozen BK152.out 3; have hfz45_4 := blk_frozen BK152.out 4; have hfz45_5 := blk_frozen BK152.out 5; have hfz45_6 := blk_frozen BK152.out 6; have hfz45_7 := blk_frozen BK152.out 7; have hfz45_8 := blk_frozen BK152.out 8; have hfz45_9 := blk_frozen BK152.out 9) | ((with_reducible refine gate_builtin (b := .append) (xs := #[.tmp 124, .tmp 126]) rfl ?_); (try (refine gate_guard (by rfl) ?_; dsimp only)); at_builtin; refine Kd.R_append_rows (Kd.int .u8) (w0 := w) w.heap.size rfl (.tmp 124) (.tmp 126) 23 5 (.int .u8 0) 1 rfl Try.underlying23 info5 rfl (by decide) (by omega) (.slice (some ⟨go33, 0, none⟩) y166.length co39) y171 l0_9 _ _ _ (fun _ => True) (fun _ => False) rfl rfl ?aO ?aR (fun _ _ h => h) (fun _ h => h.elim) ?aF ?aB ?aS ?aL ?_; (case aR => exact Kd.C_below HR0_9.out (bz HB)); (case aB => exact bz HB); (case aF => exact (fun _ _ => trivial)); (case aO => exact (Kd.rz HO168)); (case aS => exact (below_size (bz HB))); (case aL => have := LMc36.out; omega); intro v173 w46 ho hb hg hat; rw [← Ny172.out] at ho; have n0_ := Aside0.mk (Kd.R_over' (Kd.rz HO_88) (Kd.R_typed (Kd.rz HO168)) (by decide) hg); have n1_ := Aside0.mk (blk_grown (kz BK152) hg (Kd.R_ne HO168.out BK152.out (by decide))); have n2_ := Aside0.mk (hb); have n3_ := Aside0.mk (ho); clear HO_88; clear BK152; clear HB; clear HO168; have HO_88 := n0_; have BK152 := n1_; have HB := n2_; have HO174 := n3_; clear n0_ n1_ n2_ n3_; clear ho hb hg hat))
            go_ret2
            exact ⟨_, by first | rfl | (simp [errW_none, errW_some] <;> rfl) | (simp [*, errW_none, errW_some] <;> rfl), by (with_reducible repeat (first | apply Kd.R_alloc | apply Kd.R_drewN | apply Kd.R_drew)); exact HO174.out, bz HB⟩
           ·rw [if_neg c36] at H
            exact absurd H (by simp)
          ·rw [if_neg c34] at H
           exact absurd H (by simp)
         ·rw [if_neg c32] at H
          exact absurd H (by simp)
        ·rw [if_neg c30] at H
         exact absurd H (by simp)
def frames_packet_bytes.f (k : Nat) (a0_0 : Int) (a0_1 : Int) (a0_2 : Int) (a0_3 : Int) (a0_4 : Int) (a0_5 : Int) (a0_6 : Int) (a0_7 : Int) (l0_8 : List Int) (l0_9 : List Int) (l1 : List Int) : Option (List Int × Int) := (ip_Bytes.f k a0_0 a0_1 a0_2 a0_3 a0_4 a0_5 a0_6 a0_7 l0_8 l1).bind fun bt176 => (some (bt176.1, bt176.2))
theorem frames_packet_bytes.calls (k : Nat) (a0_0 : Int) (a0_1 : Int) (a0_2 : Int) (a0_3 : Int) (a0_4 : Int) (a0_5 : Int) (a0_6 : Int) (a0_7 : Int) (A0_8 : Option Addr) (c0_8 : Nat) (l0_8 : List Int) (A0_9 : Option Addr) (c0_9 : Nat) (l0_9 : List Int) (A1 : Option Addr) (c1 : Nat) (l1 : List Int) (r1 : List Int) (r2 : Int) (w : World) (hr0_8 : Kd.C (Kd.int .u8) w A0_8 l0_8.length l0_8) (hc0_8 : l0_8.length ≤ c0_8) (hr0_9 : Kd.C (Kd.int .u8) w A0_9 l0_9.length l0_9) (hc0_9 : l0_9.length ≤ c0_9) (hr1 : Kd.C (Kd.int .u8) w A1 l1.length l1) (hc1 : l1.length ≤ c1) (h : frames_packet_bytes.f k a0_0 a0_1 a0_2 a0_3 a0_4 a0_5 a0_6 a0_7 l0_8 l0_9 l1 = some (r1, r2)) :
  Calls Try.prog 154 #[.agg #[.int .u8 a0_0, .int .u8 a0_1, .int .u8 a0_2, .int .u16 a0_3, .int .u8 a0_4, .int .u16 a0_5, .int .u32 a0_6, .int .u32 a0_7, .slice A0_8 l0_8.length c0_8, .slice A0_9 l0_9.length c0_9], .slice A1 l1.length c1] w fun e w' => ∃ v0_ : Value, e = .returned (.tuple #[v0_, .int .i64 r2]) ∧ Kd.R (Kd.int .u8) 5 w' w.heap.size (fun _ => True) v0_ r1 ∧ Below w.heap.size w w' := by
 have hu121 := Try.underlying121
 have hu73 := Try.underlying73
 have HR0_8 := Aside0.mk hr0_8
 have HC0_8 := Aside0.mk hc0_8
 clear hr0_8 hc0_8
 have HR0_9 := Aside0.mk hr0_9
 have HC0_9 := Aside0.mk hc0_9
 clear hr0_9 hc0_9
 have HR1 := Aside0.mk hr1
 have HC1 := Aside0.mk hc1
 clear hr1 hc1
 have HB := Aside0.mk (Below.refl w.heap.size w)
 have H : ((ip_Bytes.f k a0_0 a0_1 a0_2 a0_3 a0_4 a0_5 a0_6 a0_7 l0_8 l1).bind fun bt176 => (some (bt176.1, bt176.2))) = some (r1, r2) := h
 clear h
 replace H := Option.bind_eq_some_iff.mp H
 obtain ⟨⟨t176, t179⟩, A30, H⟩ := H
 replace H : (some (t176, t179)) = some (r1, r2) := H
 have A3 := Aside0.mk A30
 clear A30
 simp only [Option.some.injEq, Prod.mk.injEq] at H
 obtain ⟨rfl, rfl⟩ := H
 go_enter Try.func154, Try.ntmps154
 go_wp2_with (first | ((with_reducible refine gate_dst (N := 2) rfl ?_); refine box_event ?hg (N := 2) ?hd (cs := #[.int .u8 a0_0, .int .u8 a0_1, .int .u8 a0_2, .int .u16 a0_3, .int .u8 a0_4, .int .u16 a0_5, .int .u32 a0_6, .int .u32 a0_7, .slice A0_8 l0_8.length c0_8, .slice A0_9 l0_9.length c0_9]) (t := 121) ?hr ?_; (case hd => rfl); (case hg => rfl); (case hr => first | (go_simp; done) | (go_simp; rfl)); intro gb175 hg w4 hbox hb; have n0_ := Aside0.mk (below_step (by repeat (first | exact HB.out | apply below_alloc | apply pw_below_drewN | apply below_drew1)) hb); have n1_ := Aside0.mk (hbox); have n2_ := Aside0.mk ((by rw [hg]; exact (below_size (by repeat (first | exact HB.out | apply below_alloc | apply pw_below_drewN | apply below_drew1))) : w.heap.size ≤ gb175)); have n3_ := Aside0.mk ((by rw [hg]; exact (below_size (by repeat (first | exact HB.out | apply below_alloc | apply pw_below_drewN | apply below_drew1))) : w.heap.size ≤ gb175)); clear HB; have HB := n0_; have BK175 := n1_; have GW175 := n2_; have GE175 := n3_; clear n0_ n1_ n2_ n3_; clear hb hbox hg; have hcz5_0 : w4.cell? ⟨gb175, 0, none⟩ = some (.int .u8 a0_0) := (blk_cell BK175.out 0).trans rfl; have hcz5_1 : w4.cell? ⟨gb175, 1, none⟩ = some (.int .u8 a0_1) := (blk_cell BK175.out 1).trans rfl; have hcz5_2 : w4.cell? ⟨gb175, 2, none⟩ = some (.int .u8 a0_2) := (blk_cell BK175.out 2).trans rfl; have hcz5_3 : w4.cell? ⟨gb175, 3, none⟩ = some (.int .u16 a0_3) := (blk_cell BK175.out 3).trans rfl; have hcz5_4 : w4.cell? ⟨gb175, 4, none⟩ = some (.int .u8 a0_4) := (blk_cell BK175.out 4).trans rfl; have hcz5_5 : w4.cell? ⟨gb175, 5, none⟩ = some (.int .u16 a0_5) := (blk_cell BK175.out 5).trans rfl; have hcz5_6 : w4.cell? ⟨gb175, 6, none⟩ = some (.int .u32 a0_6) := (blk_cell BK175.out 6).trans rfl; have hcz5_7 : w4.cell? ⟨gb175, 7, none⟩ = some (.int .u32 a0_7) := (blk_cell BK175.out 7).trans rfl; have hcz5_8 : w4.cell? ⟨gb175, 8, none⟩ = some (.slice A0_8 l0_8.length c0_8) := (blk_cell BK175.out 8).trans rfl; have hcz5_9 : w4.cell? ⟨gb175, 9, none⟩ = some (.slice A0_9 l0_9.length c0_9) := (blk_cell BK175.out 9).trans rfl; have hfz5_0 := blk_frozen BK175.out 0; have hfz5_1 := blk_frozen BK175.out 1; have hfz5_2 := blk_frozen BK175.out 2; have hfz5_3 := blk_frozen BK175.out 3; have hfz5_4 := blk_frozen BK175.out 4; have hfz5_5 := blk_frozen BK175.out 5; have hfz5_6 := blk_frozen BK175.out 6; have hfz5_7 := blk_frozen BK175.out 7; have hfz5_8 := blk_frozen BK175.out 8; have hfz5_9 := blk_frozen BK175.out 9) | ((with_reducible refine gate_callee (f := 71) rfl ?_); refine goesL_ (some 11) rfl rfl Try.func71 (by kernel_rfl) rfl #[.agg #[.int .u8 a0_0, .int .u8 a0_1, .int .u8 a0_2, .int .u16 a0_3, .int .u8 a0_4, .int .u16 a0_5, .int .u32 a0_6, .int .u32 a0_7, .slice A0_8 l0_8.length c0_8, .slice A1 l1.length c1]] rfl (by (try simp only [List.map_toArray, List.map_cons, List.map_nil]); first | done | rfl | (simp only [List.length_drop, List.length_take]; rfl) | (go_simp; done) | (simp [Act.eval, IntKind.signed]; done) | (simp [Act.eval, IntKind.signed]; rfl)) ?_; (with_reducible refine (ip_Bytes.calls k a0_0 a0_1 a0_2 a0_3 a0_4 a0_5 a0_6 a0_7 _ _ l0_8 _ _ l1 t176 t179 _ ?side1 ?side2 ?side3 ?side4 A3.out).mono ?_); (case side1 => exact Kd.C_below HR0_8.out (by repeat (first | (with_reducible first | exact HB.out | apply below_alloc | apply pw_below_drewN | apply below_drew1 | refine below_set ?_ GE175.out) | exact HB.out))); (case side2 => exact HC0_8.out); (case side3 => exact Kd.C_below HR1.out (by repeat (first | (with_reducible first | exact HB.out | apply below_alloc | apply pw_below_drewN | apply below_drew1 | refine below_set ?_ GE175.out) | exact HB.out))); (case side4 => exact HC1.out); rintro e w6 ⟨v177, rfl, ho0, hb⟩; refine ⟨_, rfl, ?_⟩; have n0_ := Aside0.mk (Kd.R_lower ho0 (below_size (by repeat (first | (with_reducible first | exact HB.out | apply below_alloc | apply pw_below_drewN | apply below_drew1 | refine below_set ?_ GE175.out) | exact HB.out)))); have n1_ := Aside0.mk (blk_below (g := gb175) (o := .cells #[.int .u8 a0_0, .int .u8 a0_1, .int .u8 a0_2, .int .u16 a0_3, .int .u8 a0_4, .int .u16 a0_5, .int .u32 a0_6, .int .u32 a0_7, .slice A0_8 l0_8.length c0_8, .slice A1 l1.length c1] 121 (0, 0)) (by (with_reducible repeat (first | refine blk_drewN ?_ _ | refine blk_drew ?_ | refine blk_alloc ?_ _)); refine blk_put (cs := #[.int .u8 a0_0, .int .u8 a0_1, .int .u8 a0_2, .int .u16 a0_3, .int .u8 a0_4, .int .u16 a0_5, .int .u32 a0_6, .int .u32 a0_7, .slice A0_8 l0_8.length c0_8, .slice A0_9 l0_9.length c0_9]) ?_ 9 _ rfl; (with_reducible repeat (first | refine blk_drewN ?_ _ | refine blk_drew ?_ | refine blk_alloc ?_ _)); exact BK175.out) hb); have n2_ := Aside0.mk (below_step (by repeat (first | (with_reducible first | exact HB.out | apply below_alloc | apply pw_below_drewN | apply below_drew1 | refine below_set ?_ GE175.out) | exact HB.out)) hb); clear BK175; clear HB; have HO178 := n0_; have BK175 := n1_; have HB := n2_; clear n0_ n1_ n2_; (try clear hb); (try clear hb2); (try clear hk); (try clear hi); (try clear ho0)))
 go_ret2
 exact ⟨_, by first | rfl | (simp [errW_none, errW_some] <;> rfl) | (simp [*, errW_none, errW_some] <;> rfl), by (with_reducible repeat (first | apply Kd.R_alloc | apply Kd.R_drewN | apply Kd.R_drew)); exact HO178.out, by repeat (first | (with_reducible first | exact HB.out | apply below_alloc | apply pw_below_drewN | apply below_drew1 | refine below_set ?_ GE175.out) | exact HB.out)⟩
end Go.Proofs.Ytkmimamminddiaa.PB
namespace Go.Proofs.Ytkmimamminddiaa.PB
open Go.RowKit Go.Proofs.YtkmimamminddiaaW.PrintWords Go.Proofs.YtkmimamminddiaaW.PrintLast Go.Proofs.YtkmimamminddiaaW.PrintMore
set_option linter.unusedVariables false
set_option linter.unusedSimpArgs false
theorem inv116 (v b : Value) (w : World) : (callMethod (.iface 116 v) "lych/frames.bytes" #[b]).run Try.prog w = .ok (.enter 149 #[v, b]) w := by kernel_rfl
attribute [local go_sem] inv116
theorem inv117 (v b : Value) (w : World) : (callMethod (.iface 117 v) "lych/frames.bytes" #[b]).run Try.prog w = .ok (.enter 151 #[v, b]) w := by kernel_rfl
attribute [local go_sem] inv117
theorem inv119 (v b : Value) (w : World) : (callMethod (.iface 119 v) "lych/frames.bytes" #[b]).run Try.prog w = .ok (.enter 153 #[v, b]) w := by kernel_rfl
attribute [local go_sem] inv119
theorem inv121 (v b : Value) (w : World) : (callMethod (.iface 121 v) "lych/frames.bytes" #[b]).run Try.prog w = .ok (.enter 154 #[v, b]) w := by kernel_rfl
attribute [local go_sem] inv121
inductive FLay where
 | eth (a0 a1 a2 a3 a4 a5 a6 a7 a8 a9 a10 a11 a12 : Int)
 | net (a0 : Int)
 | udp (a0 a1 a2 : Int)
 | ip (a0 a1 a2 a3 a4 a5 a6 a7 : Int)
def FLay.val : FLay → Value
 | .eth a0 a1 a2 a3 a4 a5 a6 a7 a8 a9 a10 a11 a12 => .iface 116 (.agg #[.int .u8 a0, .int .u8 a1, .int .u8 a2, .int .u8 a3, .int .u8 a4, .int .u8 a5, .int .u8 a6, .int .u8 a7, .int .u8 a8, .int .u8 a9, .int .u8 a10, .int .u8 a11, .int .u16 a12, .slice none 0 0])
 | .net a0 => .iface 117 (.int .u32 a0)
 | .udp a0 a1 a2 => .iface 119 (.agg #[.int .u16 a0, .int .u16 a1, .int .u16 a2, .slice none 0 0])
 | .ip a0 a1 a2 a3 a4 a5 a6 a7 => .iface 121 (.agg #[.int .u8 a0, .int .u8 a1, .int .u8 a2, .int .u16 a3, .int .u8 a4, .int .u16 a5, .int .u32 a6, .int .u32 a7, .slice none 0 0, .slice none 0 0])
def FLay.f (k : Nat) : FLay → List Int → Option (List Int × Int)
 | .eth a0 a1 a2 a3 a4 a5 a6 a7 a8 a9 a10 a11 a12, b => frames_ethernet_bytes.f k a0 a1 a2 a3 a4 a5 a6 a7 a8 a9 a10 a11 a12 [] b
 | .net a0, b => frames_network_bytes.f a0 b
 | .udp a0 a1 a2, b => frames_datagram_bytes.f a0 a1 a2 [] b
 | .ip a0 a1 a2 a3 a4 a5 a6 a7, b => frames_packet_bytes.f k a0 a1 a2 a3 a4 a5 a6 a7 [] [] b
def laidF (k : Nat) : List FLay → List Int → Option (List Int × Int)
 | [], b => some (b, 0)
 | x :: r, b => (x.f k b).bind fun p => if p.2 = 0 then laidF k r p.1 else some ([], 23)
theorem frames_laid.calls (k : Nat) (A0 : Option Addr) (c0 : Nat) (b : List Int) (ls : List FLay) (L : Nat) (r1 : List Int) (r2 : Int) (w : World) (hr0 : Kd.C (Kd.int .u8) w A0 b.length b) (hc0 : b.length ≤ c0) (hls : 0 < ls.length ∧ ls.length ≤ 1000) (hl : w.heap[L]? = some (.cells (ls.map FLay.val).toArray 172 (0, 0))) (h : laidF k ls b = some (r1, r2)) :
  Calls Try.prog 63 #[.slice A0 b.length c0, .slice (some ⟨L, 0, none⟩) ls.length ls.length] w fun e w' => ∃ v0_ : Value, e = .returned (.tuple #[v0_, .int .i64 r2]) ∧ Kd.R (Kd.int .u8) 5 w' w.heap.size (fun _ => True) v0_ r1 ∧ Below w.heap.size w w' := by
 have HC := Aside0.mk hr0
 have HCC := Aside0.mk hc0
 have HN := Aside0.mk hls
 have HL := Aside0.mk hl
 have HF := Aside0.mk h
 have HB := Aside0.mk (Below.refl w.heap.size w)
 clear hr0 hc0 hls hl h
 go_enter Try.func63, Try.ntmps63
 go_wp2_with fail
 go_loopg [11, 0] ls.length (fun kq v11 v0 w' => ∃ (j : Nat) (bj : List Int) (A : Option Addr) (c : Nat), v11 = .int .i64 (j : Int) ∧ v0 = .slice A bj.length c ∧ Aside0 (kq + j = ls.length) ∧ Aside0 (Kd.C (Kd.int .u8) w' A bj.length bj) ∧ Aside0 (bj.length ≤ c) ∧ Aside0 (0 < j → Kd.R (Kd.int .u8) 5 w' w.heap.size (fun _ => True) (.slice A bj.length c) bj) ∧ Aside0 (laidF k (ls.drop j) bj = some (r1, r2)) ∧ Aside0 (w'.heap[L]? = some (.cells (ls.map FLay.val).toArray 172 (0, 0))) ∧ Aside0 (Below w.heap.size w w'))
 case atStart => exact ⟨0, b, A0, c0, rfl, rfl, ⟨rfl⟩, ⟨HC.out⟩, ⟨HCC.out⟩, ⟨fun e => absurd e (Nat.lt_irrefl 0)⟩, ⟨HF.out⟩, ⟨HL.out⟩, ⟨HB.out⟩⟩
 case round =>
  clear HC HCC HF HL HB
  obtain ⟨j, bj, A, c, rfl, rfl, Hk, HC, HCC, HO, HF, HL, HB⟩ := hrel
  by_cases c6 : j < ls.length
  ·have c6b : decide ((j : Int) < (ls.length : Int)) = true := decide_eq_true (by omega)
   have c6c : decide (j < ls.length) = true := decide_eq_true c6
   have q0 : ((j : Int) < (ls.length : Int)) = True := eq_true (by omega)
   have q1 : (j < ls.length) = True := eq_true c6
   have H6 := Aside0.mk c6
   have w17 : wrap64 ((j : Int) + 1) = ((j + 1 : Nat) : Int) := by unfold wrap64; have := HN.out.2; omega
   obtain ⟨x, hx⟩ : ∃ x, ls[j]? = some x := ⟨ls[j], List.getElem?_eq_getElem c6⟩
   have hs0 : wr.cell? ⟨L, j, none⟩ = some x.val := (blk_cell HL.out j).trans (by rw [List.getElem?_toArray, List.getElem?_map, hx]; rfl)
   have hd : ls.drop j = x :: ls.drop (j + 1) := by
    rw [List.drop_eq_getElem_cons c6]
    congr 1
    exact Option.some.inj ((List.getElem?_eq_getElem c6).symm.trans hx)
   rw [hd] at HF
   obtain ⟨⟨p1, p2⟩, hp, hq⟩ := Option.bind_eq_some_iff.1 (show ((x.f k bj).bind fun p => if p.2 = 0 then laidF k (ls.drop (j + 1)) p.1 else some ([], 23)) = some (r1, r2) from HF.out)
   have HX := Aside0.mk hp
   have n0_ := Aside0.mk hq
   clear c6 hd hx HF HO hp hq
   have HF := n0_
   clear n0_
   cases x with
   | eth a0 a1 a2 a3 a4 a5 a6 a7 a8 a9 a10 a11 a12 =>
    replace hs0 : wr.cell? ⟨L, j, none⟩ = some (.iface 116 (.agg #[.int .u8 a0, .int .u8 a1, .int .u8 a2, .int .u8 a3, .int .u8 a4, .int .u8 a5, .int .u8 a6, .int .u8 a7, .int .u8 a8, .int .u8 a9, .int .u8 a10, .int .u8 a11, .int .u16 a12, .slice none 0 0])) := hs0
    go_wp2_with fail
    refine (frames_ethernet_bytes.calls k a0 a1 a2 a3 a4 a5 a6 a7 a8 a9 a10 a11 a12 none 0 [] A c bj p1 p2 wr (Kd.C_nil _ _) (Nat.le_refl _) HC.out HCC.out HX.out).mono ?_
    rintro e w1 ⟨v1, rfl, ho, hb⟩
    (try dsimp only)
    obtain ⟨A1, c1, rfl⟩ := Kd.R_slice ho
    obtain ⟨_, hcc, hrd⟩ := Kd.R_reads' ho
    have NC := Aside0.mk hrd
    have NCC := Aside0.mk hcc
    have NO := Aside0.mk (Kd.R_lower ho (below_size HB.out))
    have NB := Aside0.mk (below_step HB.out hb)
    have NL := Aside0.mk (blk_below HL.out hb)
    clear HC HCC HB HL hs0 ho hb hcc hrd HX
    by_cases k2 : p2 = 0
    ·subst k2
     have HH := Aside0.mk (show laidF k (ls.drop (j + 1)) p1 = some (r1, r2) by have h := HF.out; rw [if_pos rfl] at h; exact h)
     go_wp2
     go_roundg (gk - 1)
     case measure => have := Hk.out; have := H6.out; omega
     case rel => exact ⟨j + 1, p1, A1, c1, (by first | exact congrArg (Value.int .i64) w17 | rfl | exact congrArg (Value.int .i64) (Int.natCast_succ j).symm), rfl, ⟨by have := Hk.out; have := H6.out; omega⟩, ⟨NC.out⟩, ⟨NCC.out⟩, ⟨fun _ => NO.out⟩, ⟨HH.out⟩, ⟨NL.out⟩, ⟨NB.out⟩⟩
    ·have HH := Aside0.mk (show r1 = [] ∧ r2 = 23 by have h := HF.out; rw [if_neg k2] at h; simp only [Option.some.injEq, Prod.mk.injEq] at h; exact ⟨h.1.symm, h.2.symm⟩)
     have k2a : decide (p2 = 0) = false := decide_eq_false k2
     have k2b : (p2 == 0) = false := beq_eq_false_iff_ne.2 k2
     go_wp2
     (try simp only [Exit.inBlock, Exit.then])
     go_ret2
     obtain ⟨rfl, rfl⟩ := HH.out
     exact ⟨_, rfl, Kd.R_nil _ _ _ _ _, NB.out⟩
   | net a0 =>
    replace hs0 : wr.cell? ⟨L, j, none⟩ = some (.iface 117 (.int .u32 a0)) := hs0
    go_wp2_with fail
    refine (frames_network_bytes.calls a0 A c bj p1 p2 wr HC.out HCC.out HX.out).mono ?_
    rintro e w1 ⟨v1, rfl, ho, hb⟩
    (try dsimp only)
    obtain ⟨A1, c1, rfl⟩ := Kd.R_slice ho
    obtain ⟨_, hcc, hrd⟩ := Kd.R_reads' ho
    have NC := Aside0.mk hrd
    have NCC := Aside0.mk hcc
    have NO := Aside0.mk (Kd.R_lower ho (below_size HB.out))
    have NB := Aside0.mk (below_step HB.out hb)
    have NL := Aside0.mk (blk_below HL.out hb)
    clear HC HCC HB HL hs0 ho hb hcc hrd HX
    by_cases k2 : p2 = 0
    ·subst k2
     have HH := Aside0.mk (show laidF k (ls.drop (j + 1)) p1 = some (r1, r2) by have h := HF.out; rw [if_pos rfl] at h; exact h)
     go_wp2
     go_roundg (gk - 1)
     case measure => have := Hk.out; have := H6.out; omega
     case rel => exact ⟨j + 1, p1, A1, c1, (by first | exact congrArg (Value.int .i64) w17 | rfl | exact congrArg (Value.int .i64) (Int.natCast_succ j).symm), rfl, ⟨by have := Hk.out; have := H6.out; omega⟩, ⟨NC.out⟩, ⟨NCC.out⟩, ⟨fun _ => NO.out⟩, ⟨HH.out⟩, ⟨NL.out⟩, ⟨NB.out⟩⟩
    ·have HH := Aside0.mk (show r1 = [] ∧ r2 = 23 by have h := HF.out; rw [if_neg k2] at h; simp only [Option.some.injEq, Prod.mk.injEq] at h; exact ⟨h.1.symm, h.2.symm⟩)
     have k2a : decide (p2 = 0) = false := decide_eq_false k2
     have k2b : (p2 == 0) = false := beq_eq_false_iff_ne.2 k2
     go_wp2
     (try simp only [Exit.inBlock, Exit.then])
     go_ret2
     obtain ⟨rfl, rfl⟩ := HH.out
     exact ⟨_, rfl, Kd.R_nil _ _ _ _ _, NB.out⟩
   | udp a0 a1 a2 =>
    replace hs0 : wr.cell? ⟨L, j, none⟩ = some (.iface 119 (.agg #[.int .u16 a0, .int .u16 a1, .int .u16 a2, .slice none 0 0])) := hs0
    go_wp2_with fail
    refine (frames_datagram_bytes.calls a0 a1 a2 none 0 [] A c bj p1 p2 wr (Kd.C_nil _ _) (Nat.le_refl _) HC.out HCC.out HX.out).mono ?_
    rintro e w1 ⟨v1, rfl, ho, hb⟩
    (try dsimp only)
    obtain ⟨A1, c1, rfl⟩ := Kd.R_slice ho
    obtain ⟨_, hcc, hrd⟩ := Kd.R_reads' ho
    have NC := Aside0.mk hrd
    have NCC := Aside0.mk hcc
    have NO := Aside0.mk (Kd.R_lower ho (below_size HB.out))
    have NB := Aside0.mk (below_step HB.out hb)
    have NL := Aside0.mk (blk_below HL.out hb)
    clear HC HCC HB HL hs0 ho hb hcc hrd HX
    by_cases k2 : p2 = 0
    ·subst k2
     have HH := Aside0.mk (show laidF k (ls.drop (j + 1)) p1 = some (r1, r2) by have h := HF.out; rw [if_pos rfl] at h; exact h)
     go_wp2
     go_roundg (gk - 1)
     case measure => have := Hk.out; have := H6.out; omega
     case rel => exact ⟨j + 1, p1, A1, c1, (by first | exact congrArg (Value.int .i64) w17 | rfl | exact congrArg (Value.int .i64) (Int.natCast_succ j).symm), rfl, ⟨by have := Hk.out; have := H6.out; omega⟩, ⟨NC.out⟩, ⟨NCC.out⟩, ⟨fun _ => NO.out⟩, ⟨HH.out⟩, ⟨NL.out⟩, ⟨NB.out⟩⟩
    ·have HH := Aside0.mk (show r1 = [] ∧ r2 = 23 by have h := HF.out; rw [if_neg k2] at h; simp only [Option.some.injEq, Prod.mk.injEq] at h; exact ⟨h.1.symm, h.2.symm⟩)
     have k2a : decide (p2 = 0) = false := decide_eq_false k2
     have k2b : (p2 == 0) = false := beq_eq_false_iff_ne.2 k2
     go_wp2
     (try simp only [Exit.inBlock, Exit.then])
     go_ret2
     obtain ⟨rfl, rfl⟩ := HH.out
     exact ⟨_, rfl, Kd.R_nil _ _ _ _ _, NB.out⟩
   | ip a0 a1 a2 a3 a4 a5 a6 a7 =>
    replace hs0 : wr.cell? ⟨L, j, none⟩ = some (.iface 121 (.agg #[.int .u8 a0, .int .u8 a1, .int .u8 a2, .int .u16 a3, .int .u8 a4, .int .u16 a5, .int .u32 a6, .int .u32 a7, .slice none 0 0, .slice none 0 0])) := hs0
    go_wp2_with fail
    refine (frames_packet_bytes.calls k a0 a1 a2 a3 a4 a5 a6 a7 none 0 [] none 0 [] A c bj p1 p2 wr (Kd.C_nil _ _) (Nat.le_refl _) (Kd.C_nil _ _) (Nat.le_refl _) HC.out HCC.out HX.out).mono ?_
    rintro e w1 ⟨v1, rfl, ho, hb⟩
    (try dsimp only)
    obtain ⟨A1, c1, rfl⟩ := Kd.R_slice ho
    obtain ⟨_, hcc, hrd⟩ := Kd.R_reads' ho
    have NC := Aside0.mk hrd
    have NCC := Aside0.mk hcc
    have NO := Aside0.mk (Kd.R_lower ho (below_size HB.out))
    have NB := Aside0.mk (below_step HB.out hb)
    have NL := Aside0.mk (blk_below HL.out hb)
    clear HC HCC HB HL hs0 ho hb hcc hrd HX
    by_cases k2 : p2 = 0
    ·subst k2
     have HH := Aside0.mk (show laidF k (ls.drop (j + 1)) p1 = some (r1, r2) by have h := HF.out; rw [if_pos rfl] at h; exact h)
     go_wp2
     go_roundg (gk - 1)
     case measure => have := Hk.out; have := H6.out; omega
     case rel => exact ⟨j + 1, p1, A1, c1, (by first | exact congrArg (Value.int .i64) w17 | rfl | exact congrArg (Value.int .i64) (Int.natCast_succ j).symm), rfl, ⟨by have := Hk.out; have := H6.out; omega⟩, ⟨NC.out⟩, ⟨NCC.out⟩, ⟨fun _ => NO.out⟩, ⟨HH.out⟩, ⟨NL.out⟩, ⟨NB.out⟩⟩
    ·have HH := Aside0.mk (show r1 = [] ∧ r2 = 23 by have h := HF.out; rw [if_neg k2] at h; simp only [Option.some.injEq, Prod.mk.injEq] at h; exact ⟨h.1.symm, h.2.symm⟩)
     have k2a : decide (p2 = 0) = false := decide_eq_false k2
     have k2b : (p2 == 0) = false := beq_eq_false_iff_ne.2 k2
     go_wp2
     (try simp only [Exit.inBlock, Exit.then])
     go_ret2
     obtain ⟨rfl, rfl⟩ := HH.out
     exact ⟨_, rfl, Kd.R_nil _ _ _ _ _, NB.out⟩
  ·have c6b : decide ((j : Int) < (ls.length : Int)) = false := decide_eq_false (by omega)
   have c6c : decide (j < ls.length) = false := decide_eq_false c6
   have HZ := Aside0.mk (show 0 < j by have := HN.out.1; omega)
   have HE := Aside0.mk (show bj = r1 ∧ 0 = r2 by have h := HF.out; rw [List.drop_eq_nil_of_le (by omega)] at h; simp only [laidF, Option.some.injEq, Prod.mk.injEq] at h; exact h)
   clear c6
   go_wp2
   (try simp only [Exit.inBlock, Exit.then])
   go_ret2
   obtain ⟨rfl, rfl⟩ := HE.out
   exact ⟨_, rfl, HO.out HZ.out, HB.out⟩
theorem frames_ToOutside.calls (k : Nat) (a0_0 a0_1 a0_2 a0_3 a0_4 a0_5 a0_6 a0_7 a0_8 a0_9 a0_10 a0_11 a0_12 a0_13 a0_14 a0_15 a0_16 a0_17 a0_18 a0_19 a0_20 a0_21 a0_22 a0_23 a0_24 a0_25 a0_26 a0_27 : Int) (A0_28 : Option Addr) (n0_28 c0_28 : Nat) (A2 : Option Addr) (c2 : Nat) (l2 : List Int) (r1 : List Int) (r2 : Int) (w : World) (hr2 : Kd.C (Kd.int .u8) w A2 l2.length l2) (hc2 : l2.length ≤ c2) (h : laidF k [FLay.eth a0_13 a0_14 a0_15 a0_16 a0_17 a0_18 a0_7 a0_8 a0_9 a0_10 a0_11 a0_12 2048] l2 = some (r1, r2)) :
  Calls Try.prog 27 #[.agg #[.int .u32 a0_0, .int .u8 a0_1, .int .u8 a0_2, .int .u8 a0_3, .int .u8 a0_4, .int .u8 a0_5, .int .u8 a0_6, .int .u8 a0_7, .int .u8 a0_8, .int .u8 a0_9, .int .u8 a0_10, .int .u8 a0_11, .int .u8 a0_12, .int .u8 a0_13, .int .u8 a0_14, .int .u8 a0_15, .int .u8 a0_16, .int .u8 a0_17, .int .u8 a0_18, .int .u8 a0_19, .int .u8 a0_20, .int .u8 a0_21, .int .u8 a0_22, .int .u8 a0_23, .int .u8 a0_24, .int .u8 a0_25, .int .u8 a0_26, .int .u32 a0_27, .slice A0_28 n0_28 c0_28], .slice A2 l2.length c2] w fun e w' => ∃ v0_ : Value, e = .returned (.tuple #[v0_, .int .i64 r2]) ∧ Kd.R (Kd.int .u8) 5 w' w.heap.size (fun _ => True) v0_ r1 ∧ Below w.heap.size w w' := by
 have hu33 := Try.underlying33
 have hu58 := Try.underlying58
 have hu29 := Try.underlying29
 have hu116 := Try.underlying116
 have HC := Aside0.mk hr2
 have HCC := Aside0.mk hc2
 have HF := Aside0.mk h
 have HB := Aside0.mk (Below.refl w.heap.size w)
 clear hr2 hc2 h
 go_enter Try.func27, Try.ntmps27
 go_upto_region 1 with (((with_reducible refine gate_dst (N := 2) rfl ?_); refine box_event ?hg (N := 2) ?hd (cs := #[.int .u32 a0_0, .int .u8 a0_1, .int .u8 a0_2, .int .u8 a0_3, .int .u8 a0_4, .int .u8 a0_5, .int .u8 a0_6, .int .u8 a0_7, .int .u8 a0_8, .int .u8 a0_9, .int .u8 a0_10, .int .u8 a0_11, .int .u8 a0_12, .int .u8 a0_13, .int .u8 a0_14, .int .u8 a0_15, .int .u8 a0_16, .int .u8 a0_17, .int .u8 a0_18, .int .u8 a0_19, .int .u8 a0_20, .int .u8 a0_21, .int .u8 a0_22, .int .u8 a0_23, .int .u8 a0_24, .int .u8 a0_25, .int .u8 a0_26, .int .u32 a0_27, .slice A0_28 n0_28 c0_28]) (t := 33) ?hr ?_; (case hd => rfl); (case hg => rfl); (case hr => first | (go_simp; done) | (go_simp; rfl)); intro gp hg w1 hbox hb; have n0_ := Aside0.mk (below_step (by repeat (first | exact HB.out | apply below_alloc | apply pw_below_drewN | apply below_drew1)) hb); have HP := Aside0.mk hbox; clear HB ; have HB := n0_; clear n0_  hb hbox hg))
 have gp7 := cz HP.out 7 rfl
 have gp8 := cz HP.out 8 rfl
 have gp9 := cz HP.out 9 rfl
 have gp10 := cz HP.out 10 rfl
 have gp11 := cz HP.out 11 rfl
 have gp12 := cz HP.out 12 rfl
 have gp13 := cz HP.out 13 rfl
 have gp14 := cz HP.out 14 rfl
 have gp15 := cz HP.out 15 rfl
 have gp16 := cz HP.out 16 rfl
 have gp17 := cz HP.out 17 rfl
 have gp18 := cz HP.out 18 rfl
 go_wp2_with fail
 refine (frames_laid.calls k A2 c2 l2 [FLay.eth a0_13 a0_14 a0_15 a0_16 a0_17 a0_18 a0_7 a0_8 a0_9 a0_10 a0_11 a0_12 2048] w1.heap.size r1 r2 _ (Kd.C_below HC.out (below_alloc HB.out _)) HCC.out ⟨by simp, by simp⟩ (blk_new w1 _) HF.out).mono ?_
 rintro e wz ⟨v, rfl, ho, hb⟩
 (try dsimp only)
 have HO := Aside0.mk (Kd.R_lower ho (below_size (below_alloc HB.out _)))
 have HZ := Aside0.mk (below_step (below_alloc HB.out _) hb)
 clear HB ho hb
 go_wp2
 (try simp only [Exit.inBlock, Exit.then])
 go_ret2
 exact ⟨v, rfl, HO.out, HZ.out⟩
theorem frames_ToInside.calls (k : Nat) (a0_0 a0_1 a0_2 a0_3 a0_4 a0_5 a0_6 a0_7 a0_8 a0_9 a0_10 a0_11 a0_12 a0_13 a0_14 a0_15 a0_16 a0_17 a0_18 a0_19 a0_20 a0_21 a0_22 a0_23 a0_24 a0_25 a0_26 a0_27 : Int) (A0_28 : Option Addr) (n0_28 c0_28 : Nat) (a1_0 : ByteArray) (a1_1 a1_2 a1_3 a1_4 a1_5 a1_6 a1_7 a1_8 a1_9 a1_10 a1_11 a1_12 a1_13 a1_14 a1_15 a1_16 a1_17 a1_18 a1_19 a1_20 a1_21 a1_22 a1_24 a1_25 a1_26 a1_29 a1_30 a1_31 a1_32 : Int) (A1_23 A1_27 A1_28 : Option Addr) (n1_23 c1_23 n1_27 c1_27 n1_28 c1_28 : Nat) (A2 : Option Addr) (c2 : Nat) (l2 : List Int) (r1 : List Int) (r2 : Int) (w : World) (hr2 : Kd.C (Kd.int .u8) w A2 l2.length l2) (hc2 : l2.length ≤ c2) (h : laidF k [FLay.eth a1_17 a1_18 a1_19 a1_20 a1_21 a1_22 a0_1 a0_2 a0_3 a0_4 a0_5 a0_6 2048, FLay.net (Go.bits .and .u32 a1_1 16777215), FLay.udp 50000 4789 0, FLay.ip 0 64 17 0 2 0 a0_0 a1_10, FLay.eth a1_11 a1_12 a1_13 a1_14 a1_15 a1_16 a0_1 a0_2 a0_3 a0_4 a0_5 a0_6 2048] l2 = some (r1, r2)) :
  Calls Try.prog 25 #[.agg #[.int .u32 a0_0, .int .u8 a0_1, .int .u8 a0_2, .int .u8 a0_3, .int .u8 a0_4, .int .u8 a0_5, .int .u8 a0_6, .int .u8 a0_7, .int .u8 a0_8, .int .u8 a0_9, .int .u8 a0_10, .int .u8 a0_11, .int .u8 a0_12, .int .u8 a0_13, .int .u8 a0_14, .int .u8 a0_15, .int .u8 a0_16, .int .u8 a0_17, .int .u8 a0_18, .int .u8 a0_19, .int .u8 a0_20, .int .u8 a0_21, .int .u8 a0_22, .int .u8 a0_23, .int .u8 a0_24, .int .u8 a0_25, .int .u8 a0_26, .int .u32 a0_27, .slice A0_28 n0_28 c0_28], .agg #[.string a1_0, .int .u32 a1_1, .int .u8 a1_2, .int .u8 a1_3, .int .u8 a1_4, .int .u8 a1_5, .int .u8 a1_6, .int .u8 a1_7, .int .u8 a1_8, .int .u8 a1_9, .int .u32 a1_10, .int .u8 a1_11, .int .u8 a1_12, .int .u8 a1_13, .int .u8 a1_14, .int .u8 a1_15, .int .u8 a1_16, .int .u8 a1_17, .int .u8 a1_18, .int .u8 a1_19, .int .u8 a1_20, .int .u8 a1_21, .int .u8 a1_22, .slice A1_23 n1_23 c1_23, .int .u16 a1_24, .int .u16 a1_25, .int .i64 a1_26, .slice A1_27 n1_27 c1_27, .slice A1_28 n1_28 c1_28, .int .i64 a1_29, .int .i64 a1_30, .int .u32 a1_31, .int .u32 a1_32], .slice A2 l2.length c2] w fun e w' => ∃ v0_ : Value, e = .returned (.tuple #[v0_, .int .i64 r2]) ∧ Kd.R (Kd.int .u8) 5 w' w.heap.size (fun _ => True) v0_ r1 ∧ Below w.heap.size w w' := by
 have hu33 := Try.underlying33
 have hu58 := Try.underlying58
 have hu29 := Try.underlying29
 have hu116 := Try.underlying116
 have hu48 := Try.underlying48
 have hu83 := Try.underlying83
 have hu73 := Try.underlying73
 have hu117 := Try.underlying117
 have hu119 := Try.underlying119
 have hu121 := Try.underlying121
 have HC := Aside0.mk hr2
 have HCC := Aside0.mk hc2
 have HF := Aside0.mk h
 have HB := Aside0.mk (Below.refl w.heap.size w)
 clear hr2 hc2 h
 go_enter Try.func25, Try.ntmps25
 go_upto_region 1 with (first | ((with_reducible refine gate_dst (N := 3) rfl ?_); refine box_event ?hg (N := 3) ?hd (cs := #[.int .u32 a0_0, .int .u8 a0_1, .int .u8 a0_2, .int .u8 a0_3, .int .u8 a0_4, .int .u8 a0_5, .int .u8 a0_6, .int .u8 a0_7, .int .u8 a0_8, .int .u8 a0_9, .int .u8 a0_10, .int .u8 a0_11, .int .u8 a0_12, .int .u8 a0_13, .int .u8 a0_14, .int .u8 a0_15, .int .u8 a0_16, .int .u8 a0_17, .int .u8 a0_18, .int .u8 a0_19, .int .u8 a0_20, .int .u8 a0_21, .int .u8 a0_22, .int .u8 a0_23, .int .u8 a0_24, .int .u8 a0_25, .int .u8 a0_26, .int .u32 a0_27, .slice A0_28 n0_28 c0_28]) (t := 33) ?hr ?_; (case hd => rfl); (case hg => rfl); (case hr => first | (go_simp; done) | (go_simp; rfl)); intro gp hg w1 hbox hb; have n0_ := Aside0.mk (below_step (by repeat (first | exact HB.out | apply below_alloc | apply pw_below_drewN | apply below_drew1)) hb); have HP := Aside0.mk hbox; clear HB ; have HB := n0_; clear n0_  hb hbox hg) | ((with_reducible refine gate_dst (N := 4) rfl ?_); refine box_event ?hg (N := 4) ?hd (cs := #[.string a1_0, .int .u32 a1_1, .int .u8 a1_2, .int .u8 a1_3, .int .u8 a1_4, .int .u8 a1_5, .int .u8 a1_6, .int .u8 a1_7, .int .u8 a1_8, .int .u8 a1_9, .int .u32 a1_10, .int .u8 a1_11, .int .u8 a1_12, .int .u8 a1_13, .int .u8 a1_14, .int .u8 a1_15, .int .u8 a1_16, .int .u8 a1_17, .int .u8 a1_18, .int .u8 a1_19, .int .u8 a1_20, .int .u8 a1_21, .int .u8 a1_22, .slice A1_23 n1_23 c1_23, .int .u16 a1_24, .int .u16 a1_25, .int .i64 a1_26, .slice A1_27 n1_27 c1_27, .slice A1_28 n1_28 c1_28, .int .i64 a1_29, .int .i64 a1_30, .int .u32 a1_31, .int .u32 a1_32]) (t := 48) ?hr ?_; (case hd => rfl); (case hg => rfl); (case hr => first | (go_simp; done) | (go_simp; rfl)); intro gq hg w2 hbox hb; have n0_ := Aside0.mk (below_step (by repeat (first | exact HB.out | apply below_alloc | apply pw_below_drewN | apply below_drew1)) hb); have n1_ := Aside0.mk (blk_below (g := gp) (o := .cells #[.int .u32 a0_0, .int .u8 a0_1, .int .u8 a0_2, .int .u8 a0_3, .int .u8 a0_4, .int .u8 a0_5, .int .u8 a0_6, .int .u8 a0_7, .int .u8 a0_8, .int .u8 a0_9, .int .u8 a0_10, .int .u8 a0_11, .int .u8 a0_12, .int .u8 a0_13, .int .u8 a0_14, .int .u8 a0_15, .int .u8 a0_16, .int .u8 a0_17, .int .u8 a0_18, .int .u8 a0_19, .int .u8 a0_20, .int .u8 a0_21, .int .u8 a0_22, .int .u8 a0_23, .int .u8 a0_24, .int .u8 a0_25, .int .u8 a0_26, .int .u32 a0_27, .slice A0_28 n0_28 c0_28] 33 (0, 0)) (by (with_reducible repeat (first | refine blk_drewN ?_ _ | refine blk_drew ?_ | refine blk_alloc ?_ _)); exact HP.out) hb); have HQ := Aside0.mk hbox; clear HB HP; have HB := n0_; have HP := n1_; clear n0_ n1_ hb hbox hg))
 have gp0 := cz HP.out 0 rfl
 have gp1 := cz HP.out 1 rfl
 have gp2 := cz HP.out 2 rfl
 have gp3 := cz HP.out 3 rfl
 have gp4 := cz HP.out 4 rfl
 have gp5 := cz HP.out 5 rfl
 have gp6 := cz HP.out 6 rfl
 have gq1 := cz HQ.out 1 rfl
 have gq10 := cz HQ.out 10 rfl
 have gq11 := cz HQ.out 11 rfl
 have gq12 := cz HQ.out 12 rfl
 have gq13 := cz HQ.out 13 rfl
 have gq14 := cz HQ.out 14 rfl
 have gq15 := cz HQ.out 15 rfl
 have gq16 := cz HQ.out 16 rfl
 have gq17 := cz HQ.out 17 rfl
 have gq18 := cz HQ.out 18 rfl
 have gq19 := cz HQ.out 19 rfl
 have gq20 := cz HQ.out 20 rfl
 have gq21 := cz HQ.out 21 rfl
 have gq22 := cz HQ.out 22 rfl
 go_wp2_with fail
 refine (frames_laid.calls k A2 c2 l2 [FLay.eth a1_17 a1_18 a1_19 a1_20 a1_21 a1_22 a0_1 a0_2 a0_3 a0_4 a0_5 a0_6 2048, FLay.net (Go.bits .and .u32 a1_1 16777215), FLay.udp 50000 4789 0, FLay.ip 0 64 17 0 2 0 a0_0 a1_10, FLay.eth a1_11 a1_12 a1_13 a1_14 a1_15 a1_16 a0_1 a0_2 a0_3 a0_4 a0_5 a0_6 2048] w2.heap.size r1 r2 _ (Kd.C_below HC.out (below_alloc HB.out _)) HCC.out ⟨by simp, by simp⟩ (blk_new w2 _) HF.out).mono ?_
 rintro e wz ⟨v, rfl, ho, hb⟩
 (try dsimp only)
 have HO := Aside0.mk (Kd.R_lower ho (below_size (below_alloc HB.out _)))
 have HZ := Aside0.mk (below_step (below_alloc HB.out _) hb)
 clear HB ho hb
 go_wp2
 (try simp only [Exit.inBlock, Exit.then])
 go_ret2
 exact ⟨v, rfl, HO.out, HZ.out⟩
end Go.Proofs.Ytkmimamminddiaa.PB
namespace Go.Proofs.Ytkmimamminddiaa.PB
open Go.RowKit Go.Proofs.YtkmimamminddiaaW.PrintWords Go.Proofs.YtkmimamminddiaaW.PrintLast Go.Proofs.YtkmimamminddiaaW.PrintMore
attribute [local go_sem] max2_int min2_int max_two min_two max_three min_three max_four min_four   -- for this text's walks alone
set_option linter.unusedVariables false
set_option linter.unusedSimpArgs false
def lychhelp_Bytes.f (l0 : List Int) (l1 : List Int) : Option (Bool) := some ((strOfNums l0).toList == (strOfNums l1).toList)
theorem lychhelp_Bytes.calls (A0 : Option Addr) (c0 : Nat) (l0 : List Int) (A1 : Option Addr) (c1 : Nat) (l1 : List Int) (r : Bool) (w : World) (hr0 : Kd.C (Kd.int .u8) w A0 l0.length l0) (hc0 : l0.length ≤ c0) (hr1 : Kd.C (Kd.int .u8) w A1 l1.length l1) (hc1 : l1.length ≤ c1) (h : lychhelp_Bytes.f l0 l1 = some r) :
  Calls Try.prog 22 #[.slice A0 l0.length c0, .slice A1 l1.length c1] w fun e w' => e = .returned (.bool r) ∧ Drawn0 w w' := by
 have HR0 := Aside0.mk hr0
 have HC0 := Aside0.mk hc0
 clear hr0 hc0
 have HR1 := Aside0.mk hr1
 have HC1 := Aside0.mk hc1
 clear hr1 hc1
 have H : (some ((strOfNums l0).toList == (strOfNums l1).toList)) = some r := h
 clear h
 obtain rfl := Option.some.inj H
 have hcv3 := Kd.C_string (P := Try.prog) (A := A0) (c := c0) Try.underlying23 Try.underlying5 Try.underlying9 HR0.out
 have hcv4 := Kd.C_string (P := Try.prog) (A := A1) (c := c1) Try.underlying23 Try.underlying5 Try.underlying9 HR1.out
 go_enter Try.func22, Try.ntmps22
 go_wp2
 go_ret
 exact ⟨by first | rfl | (simp; done) | (simp [*]; done), by repeat (first | exact Drawn0.refl _ | apply Drawn0.step)⟩
end Go.Proofs.Ytkmimamminddiaa.PB
namespace Go.Proofs.Ytkmimamminddiaa.PB
open Go.RowKit Go.Proofs.YtkmimamminddiaaW.PrintWords Go.Proofs.YtkmimamminddiaaW.PrintLast Go.Proofs.YtkmimamminddiaaW.PrintMore
set_option linter.unusedVariables false
set_option linter.unusedSimpArgs false
theorem kn_ip : lychseat_Addr.f 10 9 0 200 = some 168362184 := by kernel_rfl
theorem kn_in : (laidF 200 [FLay.eth 2 7 (((0 : Nat) : Int) % 256) 0 0 0 2 1 0 0 0 0 2048, FLay.net (Go.bits .and .u32 ((100 + ((0 : Nat) : Int)) % 4294967296) 16777215), FLay.udp 50000 4789 0, FLay.ip 0 64 17 0 2 0 168362184 168361985, FLay.eth 2 9 (((0 : Nat) : Int) % 256) 0 0 0 2 1 0 0 0 0 2048] [1, 2, 3]).map (fun p => (p.1.length, p.2)) = some (67, 0) := by kernel_rfl
theorem kn_out : (laidF 200 [FLay.eth 2 3 0 0 0 0 2 2 0 0 0 0 2048] [1, 2, 3]).map (fun p => (p.1.length, p.2)) = some (17, 0) := by kernel_rfl
theorem kn_frame : ((seatInF 200 100 1 168362184 2 1 0 0 0 0 [9]).bind fun b => insF 200 168362184 2 1 0 0 0 0 b) = some (100, [9], -1) := by kernel_rfl
theorem kn_nil : outF 200 2 2 0 0 0 0 [] = some (0, [], 0) := by kernel_rfl
theorem load_mid_ {P : Program} {o : Oper} {a : Act} {w : World} {b k : Nat} {ty : TypeId} {p : Operand} {cs : List Value} {d : TypeDesc} (ho : o.op = .load ty p) (hp : a.eval p = .pointer (some ⟨b, k, none⟩)) (hc : w.rangeAt b k cs) (hu : P.underlying ty = some d) (hd : d.isRow = true) (hi : (P.info? ty).map (·.size) = some cs.length) :
  (execOp a.eval o).run P w = .ok (.value (.agg cs.toArray)) w := by
 have h := run_loadAt_mid (P := P) w b k ty cs d hc hu hd hi
 unfold execOp
 simp only [ho, hp]
 simp [h, Sem.run_bind, Result.andThen]
theorem rng_bl {w w' : World} {b o : Nat} {cs : List Value} (h : w.rangeAt b o cs) (hb : Below w.heap.size w w') : w'.rangeAt b o cs := fun j v hv => cell_bl (h j v hv) hb
theorem lit_C (k : IntKind) (w : World) (xs : List Int) (t : TypeId) (hd : xs.length ≤ 1000000) : Kd.C (Kd.int k) (w.alloc (.cells (xs.map (Value.int k)).toArray t)) (some ⟨w.heap.size, 0, none⟩) xs.length xs :=
 Kd.C_of_reads (enc := Value.int k) (d := (0 : Int)) (h1 := fun _ => rfl) ⟨rfl, by omega, fun _ => ⟨_, rfl, fun j hj => by
  have hb : (w.alloc (.cells (xs.map (Value.int k)).toArray t)).heap[w.heap.size]? = some (.cells (xs.map (Value.int k)).toArray t (0, 0)) := by simp [World.alloc, -World.alloc_eq]
  rw [add_at_]
  refine (blk_cell hb j).trans ?_
  simp [List.getD_eq_getElem?_getD, List.getElem?_eq_getElem hj]⟩⟩
def known22.R2.T : Bool × List (List Nat × List Nat) := (true, [([], []), ([], []), ([1], [1]), ([2], [2]), ([3], [3]), ([], []), ([0, 4, 5], [0, 4, 5]), ([6], [6]), ([7], [7]), ([7], [7]), ([8, 6, 0, 1, 2, 3, 4, 5, 6, 7, 8], [8]), ([9, 10, 0, 1, 2, 3, 4, 5, 6, 7, 8, 9, 10], [9])])
theorem known22.R2.tab : rtab .any (opsOf Try.f14 2) = known22.R2.T := by kernel_rfl
theorem known22.R2.bits : waitsOk known22.R2.T.2 [0, 0, 2, 6, 14, 0, 63, 127, 255, 255, 511, 2047] = true := by kernel_rfl
def known22.R4.T : Bool × List (List Nat × List Nat) := (true, [([], []), ([], []), ([], []), ([1, 2], [1, 2]), ([0, 3, 3], [0, 3]), ([4], [4]), ([5], [5]), ([5], [5]), ([5], [5]), ([6, 4, 0, 1, 2, 3, 4, 5, 6], [6]), ([7, 9, 0, 1, 2, 3, 4, 5, 6, 7, 9], [7]), ([8, 10, 0, 1, 2, 3, 4, 5, 6, 7, 8, 9, 10], [8])])
theorem known22.R4.tab : rtab .any (opsOf Try.f14 4) = known22.R4.T := by kernel_rfl
theorem known22.R4.bits : waitsOk known22.R4.T.2 [0, 0, 0, 6, 15, 31, 63, 63, 63, 127, 767, 2047] = true := by kernel_rfl
theorem known22.calls (w : World) : Calls Try.prog 14 #[] w fun e w' => e = .returned (.bool true) ∧ Below w.heap.size w w' := by
 have hu33 := Try.underlying33
 have hu29 := Try.underlying29
 have hu48 := Try.underlying48
 have HB := Aside0.mk (Below.refl w.heap.size w)
 have HI : Aside0 ((Try.prog.info? 33).map (·.size) = some 29) := ⟨by kernel_rfl⟩
 have HI48 : Aside0 ((Try.prog.info? 48).map (·.size) = some 33) := ⟨by kernel_rfl⟩
 obtain ⟨⟨b1, b1e⟩, hb1, hb1n⟩ := Option.map_eq_some_iff.1 kn_in
 simp only [Prod.mk.injEq] at hb1n
 obtain ⟨hb1n, rfl⟩ := hb1n
 have HL1 := Aside0.mk hb1
 have HL1n := Aside0.mk hb1n
 obtain ⟨⟨b2, b2e⟩, hb2, hb2n⟩ := Option.map_eq_some_iff.1 kn_out
 simp only [Prod.mk.injEq] at hb2n
 obtain ⟨hb2n, rfl⟩ := hb2n
 have HL2 := Aside0.mk hb2
 have HL2n := Aside0.mk hb2n
 obtain ⟨fr, hf1, hf2⟩ := bind_some_ kn_frame
 have HF1 := Aside0.mk hf1
 have HF2 := Aside0.mk hf2
 clear hb1 hb1n hb2 hb2n hf1 hf2
 go_enter Try.func14, Try.ntmps14
 go_wp2_with fail
 refine (seat_Config.calls _ 1 [1] _ kn_ip _ (lit_C .u16 w [1] 45 (by decide)) (by intro x hx; rw [List.mem_singleton.1 hx]; decide)).mono ?_
 rintro e w2 ⟨A, n, c, fs, hn, rfl, ho, hfs, hb⟩
 obtain rfl : n = 1 := hn
 obtain ⟨cs, rfl⟩ : ∃ cs, fs = [cs] := by
  match fs, hfs.1 with
  | [cs], _ => exact ⟨cs, rfl⟩
 obtain ⟨nm, vt, lo, hi, fl, se, qu, ra, bu, A3, A27, A28, n3, c3, n27, c27, n28, c28, hvt, rfl⟩ := hfs.2 0 cs rfl
 obtain rfl : vt = 168361985 := by
  have h1 : lychseat_Addr.f 10 9 0 ((((0 : Nat) : Int) + 1) % 256) = some 168361985 := by kernel_rfl
  exact Option.some.inj (hvt.symm.trans h1)
 obtain ⟨tb, cap_, hv, _, _⟩ := ho.form (by decide)
 injection hv with h1 h2 h3
 subst h1
 have RNG0 : Aside0 (w2.rangeAt tb 0 (tenC nm ((100 + ((0 : Nat) : Int)) % 4294967296) ((((0 : Nat) : Int) + 1) % 256) 168361985 (((0 : Nat) : Int) % 256) (.slice A3 n3 c3) lo hi fl (.slice A27 n27 c27) (.slice A28 n28 c28) se qu ra bu).toList) := ⟨fun j v hv => by
  have h4 := ho.cells (g := tb) rfl j v hv
  rw [add_at_] at h4
  rw [Nat.zero_add]
  exact h4⟩
 have n_HB := Aside0.mk (below_step (below_alloc HB.out _) hb)
 clear HB ho hfs hvt hb
 have HB := n_HB
 clear n_HB
 (try dsimp only)
 go_upto_region 2 with (((refine event_skip rfl rfl (store_new rfl rfl rfl HI.out rfl (by simp [Value.oneCell'])) ?_)))
 obtain ⟨gc, hgc⟩ : ∃ gc, gc = w2.heap.size := ⟨_, rfl⟩
 have HT : Aside0 ((w2.alloc (.cells #[.int .u32 168362184, .int .u8 2, .int .u8 1, .int .u8 0, .int .u8 0, .int .u8 0, .int .u8 0, .int .u8 2, .int .u8 2, .int .u8 0, .int .u8 0, .int .u8 0, .int .u8 0, .int .u8 2, .int .u8 3, .int .u8 0, .int .u8 0, .int .u8 0, .int .u8 0, .int .u8 200, .int .u8 0, .int .u8 0, .int .u8 0, .int .u8 0, .int .u8 0, .int .u8 0, .int .u8 0, .int .u32 1, .slice (some ⟨tb, 0, none⟩) 1 c] 33)).heap[gc]? = some (.cells #[.int .u32 168362184, .int .u8 2, .int .u8 1, .int .u8 0, .int .u8 0, .int .u8 0, .int .u8 0, .int .u8 2, .int .u8 2, .int .u8 0, .int .u8 0, .int .u8 0, .int .u8 0, .int .u8 2, .int .u8 3, .int .u8 0, .int .u8 0, .int .u8 0, .int .u8 0, .int .u8 200, .int .u8 0, .int .u8 0, .int .u8 0, .int .u8 0, .int .u8 0, .int .u8 0, .int .u8 0, .int .u32 1, .slice (some ⟨tb, 0, none⟩) 1 c] 33 (0, 0))) := ⟨by rw [hgc]; simp [World.alloc, -World.alloc_eq]⟩
 rw [← hgc]
 have hb := below_alloc (Below.refl w2.heap.size w2) (.cells #[.int .u32 168362184, .int .u8 2, .int .u8 1, .int .u8 0, .int .u8 0, .int .u8 0, .int .u8 0, .int .u8 2, .int .u8 2, .int .u8 0, .int .u8 0, .int .u8 0, .int .u8 0, .int .u8 2, .int .u8 3, .int .u8 0, .int .u8 0, .int .u8 0, .int .u8 0, .int .u8 200, .int .u8 0, .int .u8 0, .int .u8 0, .int .u8 0, .int .u8 0, .int .u8 0, .int .u8 0, .int .u32 1, .slice (some ⟨tb, 0, none⟩) 1 c] 33)
 have RNG := RNG0
 clear RNG0 hgc
 have n_HB := Aside0.mk (below_step HB.out hb)
 have n_RNG := Aside0.mk (rng_bl RNG.out hb)
 clear HB RNG
 have HB := n_HB
 have RNG := n_RNG
 clear n_HB n_RNG
 clear hb
 generalize w2.alloc (.cells #[.int .u32 168362184, .int .u8 2, .int .u8 1, .int .u8 0, .int .u8 0, .int .u8 0, .int .u8 0, .int .u8 2, .int .u8 2, .int .u8 0, .int .u8 0, .int .u8 0, .int .u8 0, .int .u8 2, .int .u8 3, .int .u8 0, .int .u8 0, .int .u8 0, .int .u8 0, .int .u8 200, .int .u8 0, .int .u8 0, .int .u8 0, .int .u8 0, .int .u8 0, .int .u8 0, .int .u8 0, .int .u32 1, .slice (some ⟨tb, 0, none⟩) 1 c] 33) = w4 at HB HT RNG ⊢
 refine start_ (n := 12) (S := fun w' => w'.heap[gc]? = some (.cells #[.int .u32 168362184, .int .u8 2, .int .u8 1, .int .u8 0, .int .u8 0, .int .u8 0, .int .u8 0, .int .u8 2, .int .u8 2, .int .u8 0, .int .u8 0, .int .u8 0, .int .u8 0, .int .u8 2, .int .u8 3, .int .u8 0, .int .u8 0, .int .u8 0, .int .u8 0, .int .u8 200, .int .u8 0, .int .u8 0, .int .u8 0, .int .u8 0, .int .u8 0, .int .u8 0, .int .u8 0, .int .u32 1, .slice (some ⟨tb, 0, none⟩) 1 c] 33 (0, 0)) ∧ w'.rangeAt tb 0 (tenC nm ((100 + ((0 : Nat) : Int)) % 4294967296) ((((0 : Nat) : Int) + 1) % 256) 168361985 (((0 : Nat) : Int) % 256) (.slice A3 n3 c3) lo hi fl (.slice A27 n27 c27) (.slice A28 n28 c28) se qu ra bu).toList) (ds := []) #[false, false, false, false, false, false, false, false, false, false, false, false] (by kernel_rfl) rfl rfl ⟨HT.out, RNG.out⟩ (fun hHeld => ?_)
 refine with_tabW known22.R2.tab known22.R2.bits (fun HT_ HW_ => ?_)
 have hb := below_drew1 (Below.refl w4.heap.size w4)
 have n_HB := Aside0.mk (below_step HB.out hb)
 have n_HT := Aside0.mk (blk_below HT.out hb)
 have n_RNG := Aside0.mk (rng_bl RNG.out hb)
 clear HB HT RNG
 have HB := n_HB
 have HT := n_HT
 have RNG := n_RNG
 clear n_HB n_HT n_RNG
 clear hb
 generalize w4.drew = w4 at HB HT RNG hHeld ⊢
 refine pz 1 16 HT_ ?_
 refine take_ (i := 0) (N := some 15) (v := (.agg #[.int .u32 168362184, .int .u8 2, .int .u8 1, .int .u8 0, .int .u8 0, .int .u8 0, .int .u8 0, .int .u8 2, .int .u8 2, .int .u8 0, .int .u8 0, .int .u8 0, .int .u8 0, .int .u8 2, .int .u8 3, .int .u8 0, .int .u8 0, .int .u8 0, .int .u8 0, .int .u8 200, .int .u8 0, .int .u8 0, .int .u8 0, .int .u8 0, .int .u8 0, .int .u8 0, .int .u8 0, .int .u32 1, .slice (some ⟨tb, 0, none⟩) 1 c])) #[true, true, false, false, false, false, false, false, false, false, false, false] rfl rfl (take_ofW HT_.out HW_.out (by kernel_rfl)) (fun _ _ _ h => h) (Or.inl ⟨by rfl, fun w' s0 => ?_⟩) hHeld rfl ?_
 ·obtain ⟨s0, s1⟩ := s0
  exact load_row (p := .tmp 1) (ty := 33) (by rfl) (by rfl) s0 hu33 (by rfl) HI.out
 refine nz 15 ?_
 refine take_ (i := 2) (N := some 17) (v := ?_) (a' := ?_) #[true, true, true, false, false, false, false, false, false, false, false, false] rfl rfl (take_ofW HT_.out HW_.out (by kernel_rfl)) (fun _ _ _ h => h) (Or.inl ⟨by rfl, ?_⟩) hHeld ?_ ?_
 rotate_left
 ·intro w' s0
  obtain ⟨s0, s1⟩ := s0
  have c28 := (blk_cell s0 28).trans (rfl : _ = some (Value.slice (some ⟨tb, 0, none⟩) 1 c))
  go_simp
  with_reducible rfl
 rotate_left
 ·simp only [ps_]
  rfl
 refine pz 3 18 HT_ ?_
 refine take_ (i := 4) (N := some 19) (v := (.agg (tenC nm ((100 + ((0 : Nat) : Int)) % 4294967296) ((((0 : Nat) : Int) + 1) % 256) 168361985 (((0 : Nat) : Int) % 256) (.slice A3 n3 c3) lo hi fl (.slice A27 n27 c27) (.slice A28 n28 c28) se qu ra bu))) #[true, true, true, true, true, false, false, false, false, false, false, false] rfl rfl (take_ofW HT_.out HW_.out (by kernel_rfl)) (fun _ _ _ h => h) (Or.inl ⟨by rfl, fun w' s0 => ?_⟩) hHeld rfl ?_
 ·obtain ⟨s0, s1⟩ := s0
  exact load_mid_ (p := .tmp 18) (ty := 48) (cs := (tenC nm ((100 + ((0 : Nat) : Int)) % 4294967296) ((((0 : Nat) : Int) + 1) % 256) 168361985 (((0 : Nat) : Int) % 256) (.slice A3 n3 c3) lo hi fl (.slice A27 n27 c27) (.slice A28 n28 c28) se qu ra bu).toList) (by rfl) (by rfl) s1 hu48 (by rfl) HI48.out
 refine nz 19 ?_
 refine oz 5 (some 20) HT_ (fun K hK => ?_)
 refine value_ (v := .slice (some ⟨w4.heap.size, 0, none⟩) 3 3) (w1 := w4.alloc (.cells #[.int .u8 1, .int .u8 2, .int .u8 3] 5)) (by rfl) rfl ?_ ?_
 ·go_simp
 have HLT := Aside0.mk (lit_C .u8 w4 [1, 2, 3] 5 (by decide))
 have hb := below_alloc (Below.refl w4.heap.size w4) (.cells #[.int .u8 1, .int .u8 2, .int .u8 3] 5)
 obtain ⟨gl, hgl⟩ : ∃ gl, gl = w4.heap.size := ⟨_, rfl⟩
 have HLI : Aside0 (Kd.C (Kd.int .u8) (w4.alloc (.cells #[.int .u8 1, .int .u8 2, .int .u8 3] 5)) (some ⟨gl, 0, none⟩) 3 [1, 2, 3]) := ⟨by rw [hgl]; exact HLT.out⟩
 rw [← hgl]
 clear hgl HLT
 have n_HB := Aside0.mk (below_step HB.out hb)
 have n_HT := Aside0.mk (blk_below HT.out hb)
 have n_RNG := Aside0.mk (rng_bl RNG.out hb)
 clear HB HT RNG
 have HB := n_HB
 have HT := n_HT
 have RNG := n_RNG
 clear n_HB n_HT n_RNG
 clear hb
 generalize w4.alloc (.cells #[.int .u8 1, .int .u8 2, .int .u8 3] 5) = w5 at HLI HB HT RNG ⊢
 refine hK.out _ _ ⟨HT.out, RNG.out⟩ (fun hHeld => ?_)
 clear hK K
 refine nz 20 ?_
 refine oz 6 (some 21) HT_ (fun K hK => ?_)
 refine goes_ Try.func25 (by kernel_rfl) rfl #[.agg #[.int .u32 168362184, .int .u8 2, .int .u8 1, .int .u8 0, .int .u8 0, .int .u8 0, .int .u8 0, .int .u8 2, .int .u8 2, .int .u8 0, .int .u8 0, .int .u8 0, .int .u8 0, .int .u8 2, .int .u8 3, .int .u8 0, .int .u8 0, .int .u8 0, .int .u8 0, .int .u8 200, .int .u8 0, .int .u8 0, .int .u8 0, .int .u8 0, .int .u8 0, .int .u8 0, .int .u8 0, .int .u32 1, .slice (some ⟨tb, 0, none⟩) 1 c], .agg (tenC nm ((100 + ((0 : Nat) : Int)) % 4294967296) ((((0 : Nat) : Int) + 1) % 256) 168361985 (((0 : Nat) : Int) % 256) (.slice A3 n3 c3) lo hi fl (.slice A27 n27 c27) (.slice A28 n28 c28) se qu ra bu), .slice (some ⟨gl, 0, none⟩) 3 3] (by rfl) rfl rfl (by first | rfl | (go_simp; done)) ?_
 refine (frames_ToInside.calls 200 _ _ _ _ _ _ _ _ _ _ _ _ _ _ _ _ _ _ _ _ _ _ _ _ _ _ _ _ _ _ _ _ _ _ _ _ _ _ _ _ _ _ _ _ _ _ _ _ _ _ _ _ _ _ _ _ _ _ _ _ _ _ _ _ _ _ _ _ _ _ _ _ [1, 2, 3] b1 0 _ HLI.out (Nat.le_refl _) HL1.out).mono ?_
 rintro e w6 ⟨v_, rfl, ho, hb⟩
 obtain ⟨Ab, cb, rfl, _, _⟩ := Kd.R_reads ho
 rw [HL1n.out]
 refine ⟨_, rfl, ?_⟩
 clear ho HLI
 have n_HB := Aside0.mk (below_step HB.out hb)
 have n_HT := Aside0.mk (blk_below HT.out hb)
 have n_RNG := Aside0.mk (rng_bl RNG.out hb)
 clear HB HT RNG
 have HB := n_HB
 have HT := n_HT
 have RNG := n_RNG
 clear n_HB n_HT n_RNG
 clear hb
 refine hK.out _ _ ⟨HT.out, RNG.out⟩ (fun hHeld => ?_)
 clear hK K
 refine nz 21 ?_
 refine pz 7 14 HT_ ?_
 refine pz 8 22 HT_ ?_
 refine pz 9 23 HT_ ?_
 refine pz 10 2 HT_ ?_
 refine pz 11 3 HT_ ?_
 refine dz HT_ ?_
 clear HT_ HW_ hHeld
 clear RNG
 (try dsimp only)
 go_wp2_with (first | (refine Kd.event_run rfl (load_row rfl rfl HT.out hu33 rfl HI.out) ?_))
 have HLT := lit_C .u8 w6 [1, 2, 3] 5 (by decide)
 have hbx : Below w6.heap.size w6 (w6.alloc (.cells #[.int .u8 1, .int .u8 2, .int .u8 3] 5)) := below_alloc (Below.refl _ _) _
 refine (frames_ToOutside.calls 200 _ _ _ _ _ _ _ _ _ _ _ _ _ _ _ _ _ _ _ _ _ _ _ _ _ _ _ _ _ _ _ _ _ [1, 2, 3] b2 0 _ HLT (Nat.le_refl _) HL2.out).mono ?_
 rintro e w7 ⟨v_, rfl, ho, hb0⟩
 obtain ⟨Ad, cd, rfl, _, _⟩ := Kd.R_reads ho
 rw [HL2n.out]
 have hb := below_step hbx hb0
 clear ho HLT hbx hb0
 have n_HB := Aside0.mk (below_step HB.out hb)
 have n_HT := Aside0.mk (blk_below HT.out hb)
 clear HB HT
 have HB := n_HB
 have HT := n_HT
 clear n_HB n_HT
 clear hb
 (try dsimp only)
 go_upto_region 4 with (fail)
 generalize w7 = w4 at HB HT ⊢
 refine start_ (n := 12) (S := fun w' => w'.heap[gc]? = some (.cells #[.int .u32 168362184, .int .u8 2, .int .u8 1, .int .u8 0, .int .u8 0, .int .u8 0, .int .u8 0, .int .u8 2, .int .u8 2, .int .u8 0, .int .u8 0, .int .u8 0, .int .u8 0, .int .u8 2, .int .u8 3, .int .u8 0, .int .u8 0, .int .u8 0, .int .u8 0, .int .u8 200, .int .u8 0, .int .u8 0, .int .u8 0, .int .u8 0, .int .u8 0, .int .u8 0, .int .u8 0, .int .u32 1, .slice (some ⟨tb, 0, none⟩) 1 c] 33 (0, 0))) (ds := []) #[false, false, false, false, false, false, false, false, false, false, false, false] (by kernel_rfl) rfl rfl HT.out (fun hHeld => ?_)
 refine with_tabW known22.R4.tab known22.R4.bits (fun HT_ HW_ => ?_)
 have hb := below_drew1 (Below.refl w4.heap.size w4)
 have n_HB := Aside0.mk (below_step HB.out hb)
 have n_HT := Aside0.mk (blk_below HT.out hb)
 clear HB HT
 have HB := n_HB
 have HT := n_HT
 clear n_HB n_HT
 clear hb
 generalize w4.drew = w4 at HB HT hHeld ⊢
 refine take_ (i := 0) (N := some 31) (v := (.agg #[.int .u32 168362184, .int .u8 2, .int .u8 1, .int .u8 0, .int .u8 0, .int .u8 0, .int .u8 0, .int .u8 2, .int .u8 2, .int .u8 0, .int .u8 0, .int .u8 0, .int .u8 0, .int .u8 2, .int .u8 3, .int .u8 0, .int .u8 0, .int .u8 0, .int .u8 0, .int .u8 200, .int .u8 0, .int .u8 0, .int .u8 0, .int .u8 0, .int .u8 0, .int .u8 0, .int .u8 0, .int .u32 1, .slice (some ⟨tb, 0, none⟩) 1 c])) #[true, false, false, false, false, false, false, false, false, false, false, false] rfl rfl (take_ofW HT_.out HW_.out (by kernel_rfl)) (fun _ _ _ h => h) (Or.inl ⟨by rfl, fun w' s0 => ?_⟩) hHeld rfl ?_
 ·exact load_row (p := .tmp 1) (ty := 33) (by rfl) (by rfl) s0 hu33 (by rfl) HI.out
 refine nz 31 ?_
 refine take_ (i := 1) (N := some 32) (v := (.agg #[.int .u32 168362184, .int .u8 2, .int .u8 1, .int .u8 0, .int .u8 0, .int .u8 0, .int .u8 0, .int .u8 2, .int .u8 2, .int .u8 0, .int .u8 0, .int .u8 0, .int .u8 0, .int .u8 2, .int .u8 3, .int .u8 0, .int .u8 0, .int .u8 0, .int .u8 0, .int .u8 200, .int .u8 0, .int .u8 0, .int .u8 0, .int .u8 0, .int .u8 0, .int .u8 0, .int .u8 0, .int .u32 1, .slice (some ⟨tb, 0, none⟩) 1 c])) #[true, true, false, false, false, false, false, false, false, false, false, false] rfl rfl (take_ofW HT_.out HW_.out (by kernel_rfl)) (fun _ _ _ h => h) (Or.inl ⟨by rfl, fun w' s0 => ?_⟩) hHeld rfl ?_
 ·exact load_row (p := .tmp 1) (ty := 33) (by rfl) (by rfl) s0 hu33 (by rfl) HI.out
 refine nz 32 ?_
 refine oz 2 (some 33) HT_ (fun K hK => ?_)
 refine value_ (v := .slice (some ⟨w4.heap.size, 0, none⟩) 1 1) (w1 := w4.alloc (.cells #[.int .u8 9] 5)) (by rfl) rfl ?_ ?_
 ·go_simp
 have HLT := Aside0.mk (lit_C .u8 w4 [9] 5 (by decide))
 have hb := below_alloc (Below.refl w4.heap.size w4) (.cells #[.int .u8 9] 5)
 obtain ⟨gl, hgl⟩ : ∃ gl, gl = w4.heap.size := ⟨_, rfl⟩
 have HLI : Aside0 (Kd.C (Kd.int .u8) (w4.alloc (.cells #[.int .u8 9] 5)) (some ⟨gl, 0, none⟩) 1 [9]) := ⟨by rw [hgl]; exact HLT.out⟩
 rw [← hgl]
 clear hgl HLT
 have n_HB := Aside0.mk (below_step HB.out hb)
 have n_HT := Aside0.mk (blk_below HT.out hb)
 clear HB HT
 have HB := n_HB
 have HT := n_HT
 clear n_HB n_HT
 clear hb
 generalize w4.alloc (.cells #[.int .u8 9] 5) = w5 at HLI HB HT ⊢
 refine hK.out _ _ HT.out (fun hHeld => ?_)
 clear hK K
 refine nz 33 ?_
 refine oz 3 (some 34) HT_ (fun K hK => ?_)
 refine goes_ Try.func16 (by kernel_rfl) rfl #[.agg #[.int .u32 168362184, .int .u8 2, .int .u8 1, .int .u8 0, .int .u8 0, .int .u8 0, .int .u8 0, .int .u8 2, .int .u8 2, .int .u8 0, .int .u8 0, .int .u8 0, .int .u8 0, .int .u8 2, .int .u8 3, .int .u8 0, .int .u8 0, .int .u8 0, .int .u8 0, .int .u8 200, .int .u8 0, .int .u8 0, .int .u8 0, .int .u8 0, .int .u8 0, .int .u8 0, .int .u8 0, .int .u32 1, .slice (some ⟨tb, 0, none⟩) 1 c], .int .i64 0, .slice (some ⟨gl, 0, none⟩) 1 1] (by rfl) rfl rfl (by first | rfl | (go_simp; done)) ?_
 refine (seat_Inside0.calls 200 _ _ _ _ _ _ _ _ _ _ _ _ _ _ _ _ _ _ _ _ _ _ _ _ _ _ _ _ _ _ _ _ _ [9] fr _ HLI.out (Nat.le_refl _) HF1.out).mono ?_
 rintro e w6 ⟨v_, rfl, ho, hb⟩
 obtain ⟨Af, cf, rfl, hcf, hkf⟩ := Kd.R_reads ho
 have HKf := Aside0.mk hkf
 have HCf := Aside0.mk hcf
 refine ⟨_, rfl, ?_⟩
 clear ho HLI hkf hcf
 have n_HB := Aside0.mk (below_step HB.out hb)
 have n_HT := Aside0.mk (blk_below HT.out hb)
 clear HB HT
 have HB := n_HB
 have HT := n_HT
 clear n_HB n_HT
 clear hb
 refine hK.out _ _ HT.out (fun hHeld => ?_)
 clear hK K
 refine nz 34 ?_
 refine oz 4 (some 35) HT_ (fun K hK => ?_)
 refine goes_ Try.func20 (by kernel_rfl) rfl #[.agg #[.int .u32 168362184, .int .u8 2, .int .u8 1, .int .u8 0, .int .u8 0, .int .u8 0, .int .u8 0, .int .u8 2, .int .u8 2, .int .u8 0, .int .u8 0, .int .u8 0, .int .u8 0, .int .u8 2, .int .u8 3, .int .u8 0, .int .u8 0, .int .u8 0, .int .u8 0, .int .u8 200, .int .u8 0, .int .u8 0, .int .u8 0, .int .u8 0, .int .u8 0, .int .u8 0, .int .u8 0, .int .u32 1, .slice (some ⟨tb, 0, none⟩) 1 c], .slice Af fr.length cf] (by rfl) rfl rfl (by first | rfl | (go_simp; done)) ?_
 refine (frames_Inside.calls 200 _ _ _ _ _ _ _ _ _ _ _ _ _ _ _ _ _ _ _ _ _ _ _ _ _ _ _ _ _ _ _ _ _ fr 100 [9] (-1) _ HKf.out HCf.out HF2.out).mono ?_
 rintro e w7 ⟨v_, rfl, ho, hb⟩
 obtain ⟨Ap, cp, rfl, hcp, hkp⟩ := Kd.R_reads ho
 have HKp := Aside0.mk hkp
 have HCp := Aside0.mk hcp
 refine ⟨_, rfl, ?_⟩
 clear ho HKf hkp hcp
 have n_HB := Aside0.mk (below_step HB.out hb)
 have n_HT := Aside0.mk (blk_below HT.out hb)
 clear HB HT
 have HB := n_HB
 have HT := n_HT
 clear n_HB n_HT
 clear hb
 refine hK.out _ _ HT.out (fun hHeld => ?_)
 clear hK K
 refine nz 35 ?_
 refine pz 5 30 HT_ ?_
 refine pz 6 36 HT_ ?_
 refine pz 7 37 HT_ ?_
 refine pz 8 38 HT_ ?_
 refine pz 9 6 HT_ ?_
 refine pz 10 7 HT_ ?_
 refine pz 11 8 HT_ ?_
 refine dz HT_ ?_
 clear HT_ HW_ hHeld
 (try dsimp only)
 go_wp2_with (first | (refine Kd.event_run rfl (load_row rfl rfl HT.out hu33 rfl HI.out) ?_))
 refine (frames_Outside.calls' 200 _ _ _ _ _ _ _ _ _ _ _ _ _ _ _ _ _ _ _ _ _ _ _ _ _ _ _ _ _ _ _ none 0 [] 0 [] 0 _ (Kd.C_nil _ _) (Nat.le_refl _) kn_nil).mono ?_
 rintro e w8 ⟨v_, rfl, ho, hb⟩
 obtain ⟨Az, cz, rfl, _, _⟩ := Kd.R_reads ho
 clear ho
 have n_HB := Aside0.mk (below_step HB.out hb)
 have n_HKp := Aside0.mk (Kd.C_below HKp.out hb)
 clear HB HKp
 have HB := n_HB
 have HKp := n_HKp
 clear n_HB n_HKp
 clear hb HT
 (try dsimp only)
 go_wp2_with fail
 have HLT := lit_C .u8 w8 [9] 5 (by decide)
 have hbx : Below w8.heap.size w8 (w8.alloc (.cells #[.int .u8 9] 5)) := below_alloc (Below.refl _ _) _
 refine (lychhelp_Bytes.calls Ap cp [9] _ _ [9] true _ (Kd.C_below HKp.out hbx) HCp.out HLT (Nat.le_refl _) (by kernel_rfl)).mono ?_
 rintro e w9 ⟨rfl, ⟨nd, rfl⟩⟩
 have n_HB := Aside0.mk (pw_below_drewN (below_step HB.out hbx) nd)
 clear HB HKp hbx HLT
 (try dsimp only)
 go_wp2
 (try simp only [Exit.inBlock, Exit.then])
 go_ret
 exact ⟨rfl, n_HB.out⟩
end Go.Proofs.Ytkmimamminddiaa.PB
namespace Go.Proofs.Ytkmimamminddiaa.PB
open Go.RowKit Go.Proofs.YtkmimamminddiaaW.PrintWords Go.Proofs.YtkmimamminddiaaW.PrintLast Go.Proofs.YtkmimamminddiaaW.PrintMore
attribute [local go_sem] max2_int min2_int max_two min_two max_three min_three max_four min_four   -- for this text's walks alone
set_option linter.unusedVariables false
set_option linter.unusedSimpArgs false
def lychref1_Pseudo.f (k : Nat) (a0 : Int) (a1 : Int) (a2 : Int) (a3 : Int) : Option (Int) := (lychref1_Fold.f k (((a0 / 65536) + (Go.bits .and .u32 a0 65535) + (a1 / 65536) + (Go.bits .and .u32 a1 65535) + (a2) + (Go.bits .and .u64 (IntKind.u64.wrap (a3)) 65535)) % 4294967296)).bind fun t395 => (some ((t395) % 4294967296))
theorem lychref1_Pseudo.calls (k : Nat) (a0 : Int) (a1 : Int) (a2 : Int) (a3 : Int) (r : Int) (w : World) (h : lychref1_Pseudo.f k a0 a1 a2 a3 = some r) :
  Calls Try.prog 82 #[.int .u32 a0, .int .u32 a1, .int .u8 a2, .int .i64 a3] w fun e w' => e = .returned (.int .u32 r) ∧ Drawn0 w w' := by
 have H : ((lychref1_Fold.f k (((a0 / 65536) + (Go.bits .and .u32 a0 65535) + (a1 / 65536) + (Go.bits .and .u32 a1 65535) + (a2) + (Go.bits .and .u64 (IntKind.u64.wrap (a3)) 65535)) % 4294967296)).bind fun t395 => (some ((t395) % 4294967296))) = some r := h
 clear h
 replace H := Option.bind_eq_some_iff.mp H
 obtain ⟨t395, A50, H⟩ := H
 replace H : (some ((t395) % 4294967296)) = some r := H
 have A5 := Aside0.mk A50
 clear A50
 obtain rfl := Option.some.inj H
 go_enter Try.func82, Try.ntmps82
 go_wp2_with (first | ((with_reducible refine gate_callee (f := 79) rfl ?_); refine goesL_ (some 30) rfl rfl Try.func79 (by kernel_rfl) rfl #[.int .u32 (((a0 / 65536) + (Go.bits .and .u32 a0 65535) + (a1 / 65536) + (Go.bits .and .u32 a1 65535) + (a2) + (Go.bits .and .u64 (IntKind.u64.wrap (a3)) 65535)) % 4294967296)] rfl (by (try simp only [List.map_toArray, List.map_cons, List.map_nil]); first | done | rfl | (simp only [List.length_drop, List.length_take]; rfl) | (go_simp; done) | (simp [Act.eval, IntKind.signed]; done) | (simp [Act.eval, IntKind.signed]; rfl)) ?_; (with_reducible refine (lychref1_Fold.calls k (((a0 / 65536) + (Go.bits .and .u32 a0 65535) + (a1 / 65536) + (Go.bits .and .u32 a1 65535) + (a2) + (Go.bits .and .u64 (IntKind.u64.wrap (a3)) 65535)) % 4294967296) t395 _ A5.out).mono ?_); rintro e w' ⟨rfl, ⟨nd, rfl⟩⟩; refine ⟨_, rfl, ?_⟩))
 go_ret
 exact ⟨by first | rfl | (simp; done) | (simp [*]; done), by repeat (first | exact Drawn0.refl _ | apply Drawn0.step)⟩
def lychref1_UdpRight.f (k : Nat) (a0 : Int) (a1 : Int) (a2_0 : Int) (a2_1 : Int) (a2_2 : Int) (l2_3 : List Int) : Option (Bool) := if a2_2 = 0 then (some true) else ((lychref1_UdpBytes.f a2_0 a2_1 a2_2 l2_3).bind fun bt397 => (if bt397.2 = 0 then ((lychref1_Pseudo.f k a0 a1 17 (bt397.1.length : Int)).bind fun t401 => ((lychref1_Add.f k t401 bt397.1).bind fun t402 => ((lychref1_Fold.f k t402).bind fun t403 => (some (t403 == 65535))))) else (some false)))
theorem lychref1_UdpRight.calls (k : Nat) (a0 : Int) (a1 : Int) (a2_0 : Int) (a2_1 : Int) (a2_2 : Int) (A2_3 : Option Addr) (c2_3 : Nat) (l2_3 : List Int) (r : Bool) (w : World) (hr2_3 : Kd.C (Kd.int .u8) w A2_3 l2_3.length l2_3) (hc2_3 : l2_3.length ≤ c2_3) (h : lychref1_UdpRight.f k a0 a1 a2_0 a2_1 a2_2 l2_3 = some r) :
  Calls Try.prog 40 #[.int .u32 a0, .int .u32 a1, .agg #[.int .u16 a2_0, .int .u16 a2_1, .int .u16 a2_2, .slice A2_3 l2_3.length c2_3]] w fun e w' => e = .returned (.bool r) ∧ Below w.heap.size w w' := by
 have hu83 := Try.underlying83
 have HR2_3 := Aside0.mk hr2_3
 have HC2_3 := Aside0.mk hc2_3
 clear hr2_3 hc2_3
 have HB := Aside0.mk (Below.refl w.heap.size w)
 have H : (if a2_2 = 0 then (some true) else ((lychref1_UdpBytes.f a2_0 a2_1 a2_2 l2_3).bind fun bt397 => (if bt397.2 = 0 then ((lychref1_Pseudo.f k a0 a1 17 (bt397.1.length : Int)).bind fun t401 => ((lychref1_Add.f k t401 bt397.1).bind fun t402 => ((lychref1_Fold.f k t402).bind fun t403 => (some (t403 == 65535))))) else (some false)))) = some r := h
 clear h
 by_cases c4 : a2_2 = 0
 ·rw [if_pos c4] at H
  have c4b0 : (a2_2 == 0) = true := beq_iff_eq.mpr c4
  have c4b1 : (a2_2 != 0) = false := bne_eq_false_iff_eq.mpr c4
  clear c4
  obtain rfl := Option.some.inj H
  go_enter Try.func40, Try.ntmps40
  go_wp2_with (first | ((with_reducible refine gate_dst (N := 5) rfl ?_); (try (refine gate_guard (by rfl) ?_; dsimp only)); refine box_event ?hg (N := 5) ?hd (cs := #[.int .u16 a2_0, .int .u16 a2_1, .int .u16 a2_2, .slice A2_3 l2_3.length c2_3]) (t := 83) ?hr ?_; (case hd => rfl); (case hg => rfl); (case hr => first | (go_simp; done) | (go_simp; rfl)); intro gb396 hg w5 hbox hb; have n0_ := Aside0.mk (below_step (bz HB) hb); have n1_ := Aside0.mk (hbox); have n2_ := Aside0.mk ((by rw [hg]; exact (below_size (bz HB)) : w.heap.size ≤ gb396)); have n3_ := Aside0.mk ((by rw [hg]; exact (below_size (bz HB)) : w.heap.size ≤ gb396)); clear HB; have HB := n0_; have BK396 := n1_; have GW396 := n2_; have GE396 := n3_; clear n0_ n1_ n2_ n3_; clear hb hbox hg; have hcz6_0 : w5.cell? ⟨gb396, 0, none⟩ = some (.int .u16 a2_0) := cz BK396.out 0 rfl; have hcz6_1 : w5.cell? ⟨gb396, 1, none⟩ = some (.int .u16 a2_1) := cz BK396.out 1 rfl; have hcz6_2 : w5.cell? ⟨gb396, 2, none⟩ = some (.int .u16 a2_2) := cz BK396.out 2 rfl; have hcz6_3 : w5.cell? ⟨gb396, 3, none⟩ = some (.slice A2_3 l2_3.length c2_3) := cz BK396.out 3 rfl; have hfz6_0 := blk_frozen BK396.out 0; have hfz6_1 := blk_frozen BK396.out 1; have hfz6_2 := blk_frozen BK396.out 2; have hfz6_3 := blk_frozen BK396.out 3))
  go_ret
  exact ⟨by first | rfl | (simp [errW_none, errW_some] <;> rfl) | (simp [*, errW_none, errW_some] <;> rfl), bz HB⟩
 ·rw [if_neg c4] at H
  have c4b0 : (a2_2 == 0) = false := beq_eq_false_iff_ne.mpr c4
  have c4b1 : (a2_2 != 0) = true := bne_iff_ne.mpr c4
  replace H := Option.bind_eq_some_iff.mp H
  obtain ⟨⟨t397, t400⟩, A70, H⟩ := H
  replace H : (if t400 = 0 then ((lychref1_Pseudo.f k a0 a1 17 (t397.length : Int)).bind fun t401 => ((lychref1_Add.f k t401 t397).bind fun t402 => ((lychref1_Fold.f k t402).bind fun t403 => (some (t403 == 65535))))) else (some false)) = some r := H
  have A7 := Aside0.mk A70
  clear A70
  by_cases c8 : t400 = 0
  ·rw [if_pos c8] at H
   have c8b0 : (t400 == 0) = true := beq_iff_eq.mpr c8
   have c8b1 : (t400 != 0) = false := bne_eq_false_iff_eq.mpr c8
   clear c8
   replace H := Option.bind_eq_some_iff.mp H
   obtain ⟨t401, A90, H⟩ := H
   replace H : ((lychref1_Add.f k t401 t397).bind fun t402 => ((lychref1_Fold.f k t402).bind fun t403 => (some (t403 == 65535)))) = some r := H
   have A9 := Aside0.mk A90
   clear A90
   replace H := Option.bind_eq_some_iff.mp H
   obtain ⟨t402, A100, H⟩ := H
   replace H : ((lychref1_Fold.f k t402).bind fun t403 => (some (t403 == 65535))) = some r := H
   have A10 := Aside0.mk A100
   clear A100
   replace H := Option.bind_eq_some_iff.mp H
   obtain ⟨t403, A110, H⟩ := H
   replace H : (some (t403 == 65535)) = some r := H
   have A11 := Aside0.mk A110
   clear A110
   obtain rfl := Option.some.inj H
   go_enter Try.func40, Try.ntmps40
   go_wp2_with (first | ((with_reducible refine gate_dst (N := 5) rfl ?_); (try (refine gate_guard (by rfl) ?_; dsimp only)); refine box_event ?hg (N := 5) ?hd (cs := #[.int .u16 a2_0, .int .u16 a2_1, .int .u16 a2_2, .slice A2_3 l2_3.length c2_3]) (t := 83) ?hr ?_; (case hd => rfl); (case hg => rfl); (case hr => first | (go_simp; done) | (go_simp; rfl)); intro gb396 hg w12 hbox hb; have n0_ := Aside0.mk (below_step (bz HB) hb); have n1_ := Aside0.mk (hbox); have n2_ := Aside0.mk ((by rw [hg]; exact (below_size (bz HB)) : w.heap.size ≤ gb396)); have n3_ := Aside0.mk ((by rw [hg]; exact (below_size (bz HB)) : w.heap.size ≤ gb396)); clear HB; have HB := n0_; have BK396 := n1_; have GW396 := n2_; have GE396 := n3_; clear n0_ n1_ n2_ n3_; clear hb hbox hg; have hcz13_0 : w12.cell? ⟨gb396, 0, none⟩ = some (.int .u16 a2_0) := cz BK396.out 0 rfl; have hcz13_1 : w12.cell? ⟨gb396, 1, none⟩ = some (.int .u16 a2_1) := cz BK396.out 1 rfl; have hcz13_2 : w12.cell? ⟨gb396, 2, none⟩ = some (.int .u16 a2_2) := cz BK396.out 2 rfl; have hcz13_3 : w12.cell? ⟨gb396, 3, none⟩ = some (.slice A2_3 l2_3.length c2_3) := cz BK396.out 3 rfl; have hfz13_0 := blk_frozen BK396.out 0; have hfz13_1 := blk_frozen BK396.out 1; have hfz13_2 := blk_frozen BK396.out 2; have hfz13_3 := blk_frozen BK396.out 3) | ((with_reducible refine gate_callee (f := 48) rfl ?_); refine gL 14 Try.func48 #[.agg #[.int .u16 a2_0, .int .u16 a2_1, .int .u16 a2_2, .slice A2_3 l2_3.length c2_3]] ?_; (with_reducible refine (lychref1_UdpBytes.calls a2_0 a2_1 a2_2 _ _ l2_3 t397 t400 _ ?side1 ?side2 A7.out).mono ?_); (case side1 => exact Kd.C_below HR2_3.out (bz HB)); (case side2 => exact HC2_3.out); rintro e w14 ⟨v398, rfl, ho0, hb⟩; refine ⟨_, rfl, ?_⟩; have n0_ := Aside0.mk (Kd.R_lower ho0 (below_size (bz HB))); have n1_ := Aside0.mk (blk_below (kz BK396) hb); have n2_ := Aside0.mk (below_step (bz HB) hb); clear BK396; clear HB; have HO399 := n0_; have BK396 := n1_; have HB := n2_; clear n0_ n1_ n2_; (try clear hb); (try clear hb2); (try clear hk); (try clear hi); (try clear ho0); obtain ⟨Ao15, co15, eo15⟩ := Kd.R_slice HO399.out; subst eo15) | (go_at_call 82; (with_reducible refine (lychref1_Pseudo.calls k a0 a1 17 (t397.length : Int) t401 _ A9.out).mono ?_); rintro e w' ⟨rfl, ⟨nd, rfl⟩⟩) | (go_at_call 80; (with_reducible refine (lychref1_Add.calls k t401 _ _ t397 t402 _ ?side1 ?side2 A10.out).mono ?_); (case side1 => repeat (first | exact (Kd.R_reads' HO399.out).2.2 | (with_reducible refine Kd.C_alloc ?_ _) | (with_reducible refine Kd.C_drewN ?_ _) | (with_reducible refine Kd.C_drew ?_))); (case side2 => exact (Kd.R_reads' HO399.out).2.1); rintro e w16 ⟨rfl, hb⟩; have n0_ := Aside0.mk (Kd.R_below (Kd.rz HO399) hb); have n1_ := Aside0.mk (blk_below (kz BK396) hb); have n2_ := Aside0.mk (below_step (bz HB) hb); clear HO399; clear BK396; clear HB; have HO399 := n0_; have BK396 := n1_; have HB := n2_; clear n0_ n1_ n2_; (try clear hb); (try clear hb2); (try clear hk); (try clear hi)) | (go_at_call 79; (with_reducible refine (lychref1_Fold.calls k t402 t403 _ A11.out).mono ?_); rintro e w' ⟨rfl, ⟨nd, rfl⟩⟩))
   go_ret
   exact ⟨by first | rfl | (simp [errW_none, errW_some] <;> rfl) | (simp [*, errW_none, errW_some] <;> rfl), bz HB⟩
  ·rw [if_neg c8] at H
   have c8b0 : (t400 == 0) = false := beq_eq_false_iff_ne.mpr c8
   have c8b1 : (t400 != 0) = true := bne_iff_ne.mpr c8
   obtain rfl := Option.some.inj H
   go_enter Try.func40, Try.ntmps40
   go_wp2_with (first | ((with_reducible refine gate_dst (N := 5) rfl ?_); (try (refine gate_guard (by rfl) ?_; dsimp only)); refine box_event ?hg (N := 5) ?hd (cs := #[.int .u16 a2_0, .int .u16 a2_1, .int .u16 a2_2, .slice A2_3 l2_3.length c2_3]) (t := 83) ?hr ?_; (case hd => rfl); (case hg => rfl); (case hr => first | (go_simp; done) | (go_simp; rfl)); intro gb396 hg w17 hbox hb; have n0_ := Aside0.mk (below_step (bz HB) hb); have n1_ := Aside0.mk (hbox); have n2_ := Aside0.mk ((by rw [hg]; exact (below_size (bz HB)) : w.heap.size ≤ gb396)); have n3_ := Aside0.mk ((by rw [hg]; exact (below_size (bz HB)) : w.heap.size ≤ gb396)); clear HB; have HB := n0_; have BK396 := n1_; have GW396 := n2_; have GE396 := n3_; clear n0_ n1_ n2_ n3_; clear hb hbox hg; have hcz18_0 : w17.cell? ⟨gb396, 0, none⟩ = some (.int .u16 a2_0) := cz BK396.out 0 rfl; have hcz18_1 : w17.cell? ⟨gb396, 1, none⟩ = some (.int .u16 a2_1) := cz BK396.out 1 rfl; have hcz18_2 : w17.cell? ⟨gb396, 2, none⟩ = some (.int .u16 a2_2) := cz BK396.out 2 rfl; have hcz18_3 : w17.cell? ⟨gb396, 3, none⟩ = some (.slice A2_3 l2_3.length c2_3) := cz BK396.out 3 rfl; have hfz18_0 := blk_frozen BK396.out 0; have hfz18_1 := blk_frozen BK396.out 1; have hfz18_2 := blk_frozen BK396.out 2; have hfz18_3 := blk_frozen BK396.out 3) | ((with_reducible refine gate_callee (f := 48) rfl ?_); refine gL 14 Try.func48 #[.agg #[.int .u16 a2_0, .int .u16 a2_1, .int .u16 a2_2, .slice A2_3 l2_3.length c2_3]] ?_; (with_reducible refine (lychref1_UdpBytes.calls a2_0 a2_1 a2_2 _ _ l2_3 t397 t400 _ ?side1 ?side2 A7.out).mono ?_); (case side1 => exact Kd.C_below HR2_3.out (bz HB)); (case side2 => exact HC2_3.out); rintro e w19 ⟨v398, rfl, ho0, hb⟩; refine ⟨_, rfl, ?_⟩; have n0_ := Aside0.mk (Kd.R_lower ho0 (below_size (bz HB))); have n1_ := Aside0.mk (blk_below (kz BK396) hb); have n2_ := Aside0.mk (below_step (bz HB) hb); clear BK396; clear HB; have HO399 := n0_; have BK396 := n1_; have HB := n2_; clear n0_ n1_ n2_; (try clear hb); (try clear hb2); (try clear hk); (try clear hi); (try clear ho0)))
   go_ret
   exact ⟨by first | rfl | (simp [errW_none, errW_some] <;> rfl) | (simp [*, errW_none, errW_some] <;> rfl), bz HB⟩
def lychref1_Get16.f (l0 : List Int) (a1 : Int) : Option (Int) := if 0 ≤ a1 then (if a1 < (l0.length : Int) then (if 0 ≤ (wrap64 (a1 + 1)) then (if (wrap64 (a1 + 1)) < (l0.length : Int) then (some (Go.bits .or .u16 (IntKind.u16.wrap ((IntKind.u16.wrap (rd l0 a1)) * 256)) (IntKind.u16.wrap (rd l0 (wrap64 (a1 + 1)))))) else (none)) else (none)) else (none)) else (none)
theorem lychref1_Get16.calls (A0 : Option Addr) (c0 : Nat) (l0 : List Int) (a1 : Int) (r : Int) (w : World) (hr0 : Kd.C (Kd.int .u8) w A0 l0.length l0) (hc0 : l0.length ≤ c0) (h : lychref1_Get16.f l0 a1 = some r) :
  Calls Try.prog 64 #[.slice A0 l0.length c0, .int .i64 a1] w fun e w' => e = .returned (.int .u16 r) ∧ Drawn0 w w' := by
 have HR0 := Aside0.mk hr0
 have HC0 := Aside0.mk hc0
 clear hr0 hc0
 have H : (if 0 ≤ a1 then (if a1 < (l0.length : Int) then (if 0 ≤ (wrap64 (a1 + 1)) then (if (wrap64 (a1 + 1)) < (l0.length : Int) then (some (Go.bits .or .u16 (IntKind.u16.wrap ((IntKind.u16.wrap (rd l0 a1)) * 256)) (IntKind.u16.wrap (rd l0 (wrap64 (a1 + 1)))))) else (none)) else (none)) else (none)) else (none)) = some r := h
 clear h
 by_cases c3 : 0 ≤ a1
 ·rw [if_pos c3] at H
  have c3b0 : decide (0 ≤ a1) = true := decide_eq_true c3
  clear c3
  by_cases c4 : a1 < (l0.length : Int)
  ·rw [if_pos c4] at H
   have c4b0 : decide (a1 < (l0.length : Int)) = true := decide_eq_true c4
   clear c4
   obtain ⟨ji5, hji5⟩ : ∃ j_ : Int, (wrap64 (a1 + 1)) = j_ := ⟨_, rfl⟩
   replace H : (if 0 ≤ (ji5) then (if (ji5) < (l0.length : Int) then (some (Go.bits .or .u16 (IntKind.u16.wrap ((IntKind.u16.wrap (rd l0 a1)) * 256)) (IntKind.u16.wrap (rd l0 (ji5))))) else (none)) else (none)) = some r := by first | (rw [hji5] at H; exact H) | (simp only [hji5] at H ⊢; exact H)
   have hji5w : (IntKind.i64.wrap (a1 + 1)) = ji5 := (i64_w _).trans hji5
   by_cases c6 : 0 ≤ (ji5)
   ·rw [if_pos c6] at H
    have c6b0 : decide (0 ≤ (ji5)) = true := decide_eq_true c6
    clear c6
    by_cases c7 : (ji5) < (l0.length : Int)
    ·rw [if_pos c7] at H
     have c7b0 : decide ((ji5) < (l0.length : Int)) = true := decide_eq_true c7
     clear c7
     obtain rfl := Option.some.inj H
     have p404 : 0 ≤ (a1 : Int) := of_decide_eq_true (by first | (with_reducible assumption) | assumption)
     have q404 : a1 < (l0.length : Int) := of_decide_eq_true (by first | (with_reducible assumption) | assumption)
     obtain ⟨ad404, e404, hx404_0⟩ := Kd.at_int HR0.out a1 p404 q404
     cases e404
     replace p404 := eq_true p404
     replace q404 := eq_true q404
     have p405 : 0 ≤ ((ji5) : Int) := of_decide_eq_true (by first | (with_reducible assumption) | assumption)
     have q405 : (ji5) < (l0.length : Int) := of_decide_eq_true (by first | (with_reducible assumption) | assumption)
     obtain ⟨ad405, e405, hx405_0⟩ := Kd.at_int HR0.out (ji5) p405 q405
     obtain rfl : ad404 = ad405 := (by injection e405)
     replace p405 := eq_true p405
     replace q405 := eq_true q405
     go_enter Try.func64, Try.ntmps64
     go_wp2
     repeat (go_quiet (fail); try go_wp2)
     go_ret
     exact ⟨by first | rfl | (simp; done) | (simp only [← hji5] <;> (first | rfl | simp)) | (simp [*]; done), by repeat (first | exact Drawn0.refl _ | apply Drawn0.step)⟩
    ·rw [if_neg c7] at H
     exact absurd H (by simp)
   ·rw [if_neg c6] at H
    exact absurd H (by simp)
  ·rw [if_neg c4] at H
   exact absurd H (by simp)
 ·rw [if_neg c3] at H
  exact absurd H (by simp)
def lychref1_cut.f (l0 : List Int) (a1 : Int) (a2 : Int) : Option (List Int) := if 0 ≤ a1 then (if a1 ≤ a2 then (if a2 ≤ (l0.length : Int) then (if ([] : List Int).length + ((l0.take (a2 : Int).toNat).drop (a1 : Int).toNat).length < 140737488355328 then (some (([] : List Int) ++ ((l0.take (a2 : Int).toNat).drop (a1 : Int).toNat))) else (none)) else (none)) else (none)) else (none)
theorem lychref1_cut.calls (A0 : Option Addr) (c0 : Nat) (l0 : List Int) (a1 : Int) (a2 : Int) (r : List Int) (w : World) (hr0 : Kd.C (Kd.int .u8) w A0 l0.length l0) (hc0 : l0.length ≤ c0) (h : lychref1_cut.f l0 a1 a2 = some r) :
  Calls Try.prog 65 #[.slice A0 l0.length c0, .int .i64 a1, .int .i64 a2] w fun e w' => ∃ v0_ : Value, e = .returned (v0_) ∧ Kd.R (Kd.int .u8) 5 w' w.heap.size (fun _ => True) v0_ r ∧ Below w.heap.size w w' := by
 have HR0 := Aside0.mk hr0
 have HC0 := Aside0.mk hc0
 clear hr0 hc0
 have HB := Aside0.mk (Below.refl w.heap.size w)
 have H : (if 0 ≤ a1 then (if a1 ≤ a2 then (if a2 ≤ (l0.length : Int) then (if ([] : List Int).length + ((l0.take (a2 : Int).toNat).drop (a1 : Int).toNat).length < 140737488355328 then (some (([] : List Int) ++ ((l0.take (a2 : Int).toNat).drop (a1 : Int).toNat))) else (none)) else (none)) else (none)) else (none)) = some r := h
 clear h
 by_cases c4 : 0 ≤ a1
 ·rw [if_pos c4] at H
  have c4b0 := eq_true c4
  have c4b1 : decide (0 ≤ a1) = true := decide_eq_true c4
  clear c4
  by_cases c5 : a1 ≤ a2
  ·rw [if_pos c5] at H
   have c5b0 := eq_true c5
   have c5b1 : decide (a1 ≤ a2) = true := decide_eq_true c5
   clear c5
   by_cases c6 : a2 ≤ (l0.length : Int)
   ·rw [if_pos c6] at H
    have c6b0 := eq_true c6
    have c6b1 : decide (a2 ≤ (l0.length : Int)) = true := decide_eq_true c6
    clear c6
    by_cases c7 : ([] : List Int).length + ((l0.take (a2 : Int).toNat).drop (a1 : Int).toNat).length < 140737488355328
    ·rw [if_pos c7] at H
     have LMc7 := Aside0.mk c7
     clear c7
     obtain ⟨y407, hy407⟩ : ∃ y_ : List Int, y_ = (([] : List Int) ++ ((l0.take (a2 : Int).toNat).drop (a1 : Int).toNat)) := ⟨_, rfl⟩
     replace H : (some y407) = some r := by first | (rw [hy407]; with_reducible exact H) | (have H2_ := (Option.bind_some _ _).symm.trans H; rw [hy407]; with_reducible exact H2_) | (have H2_ := (Option.bind_some _ _).symm.trans H; with_reducible exact H2_) | with_reducible exact H | (rw [hy407]; exact H) | exact H
     have Ny407 := Aside0.mk hy407
     clear hy407
     obtain rfl := Option.some.inj H
     obtain ⟨i08, hi08, _, hsz8, _⟩ := info_parts info5
     obtain ⟨A8, hcut8, hA8, hC8⟩ := print_mid_of (P := Try.prog) (Value.int .u8) 0 23 5 .i64 .i64 Try.underlying23 hi08 hsz8 A0 c0 l0 a1 a2 (of_decide_eq_true (by first | (with_reducible assumption) | assumption)) (by first | omega | exact of_decide_eq_true (by first | (with_reducible assumption) | assumption)) (of_decide_eq_true (by first | (with_reducible assumption) | assumption)) HC0.out
     have HR406 := Aside0.mk (Kd.C_of_reads (h1 := fun _ => rfl) (hA8 _ (Kd.reads_of_C HR0.out)))
     have HC406 := Aside0.mk hC8
     clear hA8 hC8 hi08 hsz8
     go_enter Try.func65, Try.ntmps65
     go_wp2_with (first | ((with_reducible refine gate_builtin (b := .append) (xs := #[.const (.slice none 0 0), .tmp 10]) rfl ?_); at_builtin; refine Kd.R_append_rows (Kd.int .u8) (w0 := w) w.heap.size rfl (.const (.slice none 0 0)) (.tmp 10) 23 5 (.int .u8 0) 1 rfl Try.underlying23 info5 rfl (by decide) (by omega) (.slice none 0 0) ([] : List Int) ((l0.take (a2 : Int).toNat).drop (a1 : Int).toNat) _ _ _ (fun _ => True) (fun _ => False) rfl rfl ?aO ?aR (fun _ _ h => h) (fun _ h => h.elim) ?aF ?aB ?aS ?aL ?_; (case aR => first | (rw [← show ((l0.take (a2 : Int).toNat).drop (a1 : Int).toNat).length = (a2.toNat - a1.toNat) from (by rw [List.length_drop, List.length_take]; have h_ : (a2 : Int) ≤ (l0.length : Int) := of_decide_eq_true (by first | (with_reducible assumption) | assumption); omega)]; repeat (first | exact HR406.out | (with_reducible refine Kd.C_alloc ?_ _) | (with_reducible refine Kd.C_drewN ?_ _) | (with_reducible refine Kd.C_drew ?_))) | (repeat (first | exact HR406.out | (with_reducible refine Kd.C_alloc ?_ _) | (with_reducible refine Kd.C_drewN ?_ _) | (with_reducible refine Kd.C_drew ?_)))); (case aB => exact bz HB); (case aF => exact (fun _ _ => trivial)); (case aO => exact ((Kd.R_nil _ _ _ _ (fun _ => True)))); (case aS => exact (below_size (bz HB))); (case aL => have := LMc7.out; have hlx_ := (show ((l0.take (a2 : Int).toNat).drop (a1 : Int).toNat).length = (a2.toNat - a1.toNat) from (by rw [List.length_drop, List.length_take]; have h_ : (a2 : Int) ≤ (l0.length : Int) := of_decide_eq_true (by first | (with_reducible assumption) | assumption); omega)); omega); intro v408 w9 ho hb hg hat; rw [← Ny407.out] at ho; have n0_ := Aside0.mk (hb); have n1_ := Aside0.mk (ho); clear HB; have HB := n0_; have HO409 := n1_; clear n0_ n1_; clear ho hb hg hat))
     go_ret
     exact ⟨_, by first | rfl | (simp [errW_none, errW_some] <;> rfl) | (simp [*, errW_none, errW_some] <;> rfl), by (with_reducible repeat (first | apply Kd.R_alloc | apply Kd.R_drewN | apply Kd.R_drew)); exact HO409.out, bz HB⟩
    ·rw [if_neg c7] at H
     exact absurd H (by simp)
   ·rw [if_neg c6] at H
    exact absurd H (by simp)
  ·rw [if_neg c5] at H
   exact absurd H (by simp)
 ·rw [if_neg c4] at H
  exact absurd H (by simp)
def lychref1_Udp.f (l0 : List Int) : Option (Int × Int × Int × List Int × Int) := if (l0.length : Int) < 8 then (some (0, 0, 0, ([] : List Int), 20)) else ((lychref1_Get16.f l0 4).bind fun t411 => (if (wrap64 (t411)) < 8 then (some (0, 0, 0, ([] : List Int), 21)) else (if (l0.length : Int) < (wrap64 (t411)) then (some (0, 0, 0, ([] : List Int), 20)) else ((lychref1_Get16.f l0 0).bind fun t412 => ((lychref1_Get16.f l0 2).bind fun t413 => ((lychref1_Get16.f l0 6).bind fun t414 => ((lychref1_cut.f l0 8 (wrap64 (t411))).bind fun t415 => (some (t412, t413, t414, t415, 0)))))))))
theorem lychref1_Udp.calls (A0 : Option Addr) (c0 : Nat) (l0 : List Int) (r1 : Int) (r2 : Int) (r3 : Int) (r4 : List Int) (r5 : Int) (w : World) (hr0 : Kd.C (Kd.int .u8) w A0 l0.length l0) (hc0 : l0.length ≤ c0) (h : lychref1_Udp.f l0 = some (r1, r2, r3, r4, r5)) :
  Calls Try.prog 39 #[.slice A0 l0.length c0] w fun e w' => ∃ v3_ : Value, e = .returned (.tuple #[.agg #[.int .u16 r1, .int .u16 r2, .int .u16 r3, v3_], .int .i64 r5]) ∧ Kd.R (Kd.int .u8) 5 w' w.heap.size (fun _ => True) v3_ r4 ∧ Below w.heap.size w w' := by
 have hu83 := Try.underlying83
 have HR0 := Aside0.mk hr0
 have HC0 := Aside0.mk hc0
 clear hr0 hc0
 have HB := Aside0.mk (Below.refl w.heap.size w)
 have H : (if (l0.length : Int) < 8 then (some (0, 0, 0, ([] : List Int), 20)) else ((lychref1_Get16.f l0 4).bind fun t411 => (if (wrap64 (t411)) < 8 then (some (0, 0, 0, ([] : List Int), 21)) else (if (l0.length : Int) < (wrap64 (t411)) then (some (0, 0, 0, ([] : List Int), 20)) else ((lychref1_Get16.f l0 0).bind fun t412 => ((lychref1_Get16.f l0 2).bind fun t413 => ((lychref1_Get16.f l0 6).bind fun t414 => ((lychref1_cut.f l0 8 (wrap64 (t411))).bind fun t415 => (some (t412, t413, t414, t415, 0)))))))))) = some (r1, r2, r3, r4, r5) := h
 clear h
 by_cases c2 : (l0.length : Int) < 8
 ·rw [if_pos c2] at H
  have c2b0 : decide ((l0.length : Int) < 8) = true := decide_eq_true c2
  have c2b1 : decide (l0.length < 8) = true := decide_eq_true (by omega)
  clear c2
  simp only [Option.some.injEq, Prod.mk.injEq] at H
  obtain ⟨rfl, rfl, rfl, rfl, rfl⟩ := H
  go_enter Try.func39, Try.ntmps39
  go_wp2_with (first | ((with_reducible refine gate_dst (N := 2) rfl ?_); refine box_event ?hg (N := 2) ?hd (cs := #[.int .u16 0, .int .u16 0, .int .u16 0, .slice none 0 0]) (t := 83) ?hr ?_; (case hd => rfl); (case hg => rfl); (case hr => first | (go_simp; done) | (go_simp; rfl)); intro gb410 hg w3 hbox hb; have n0_ := Aside0.mk (below_step (bz HB) hb); have n1_ := Aside0.mk (hbox); have n2_ := Aside0.mk ((by rw [hg]; exact (below_size (bz HB)) : w.heap.size ≤ gb410)); have n3_ := Aside0.mk ((by rw [hg]; exact (below_size (bz HB)) : w.heap.size ≤ gb410)); clear HB; have HB := n0_; have BK410 := n1_; have GW410 := n2_; have GE410 := n3_; clear n0_ n1_ n2_ n3_; clear hb hbox hg; have hcz4_0 : w3.cell? ⟨gb410, 0, none⟩ = some (.int .u16 0) := cz BK410.out 0 rfl; have hcz4_1 : w3.cell? ⟨gb410, 1, none⟩ = some (.int .u16 0) := cz BK410.out 1 rfl; have hcz4_2 : w3.cell? ⟨gb410, 2, none⟩ = some (.int .u16 0) := cz BK410.out 2 rfl; have hcz4_3 : w3.cell? ⟨gb410, 3, none⟩ = some (.slice none 0 0) := cz BK410.out 3 rfl; have hfz4_0 := blk_frozen BK410.out 0; have hfz4_1 := blk_frozen BK410.out 1; have hfz4_2 := blk_frozen BK410.out 2; have hfz4_3 := blk_frozen BK410.out 3))
  refine bodyPost_ret (results_ct rfl _ _ gb410 83 #[.int .u16 0, .int .u16 0, .int .u16 0, .slice none 0 0] (0, 0) _ rfl (by (repeat (first | with_reducible refine blk_drewN ?_ _ | with_reducible refine blk_drew ?_ | with_reducible refine blk_alloc ?_ _ | refine blk_put (cs := #[.int .u16 0, .int .u16 0, .int .u16 0, .slice none 0 0]) ?_ _ _ rfl)); (with_reducible repeat (first | refine blk_drewN ?_ _ | refine blk_drew ?_ | refine blk_alloc ?_ _)); exact BK410.out) Try.underlying83 rfl (by kernel_rfl)) rfl ?_
  exact ⟨_, by first | rfl | (simp [errW_none, errW_some] <;> rfl) | (simp [*, errW_none, errW_some] <;> rfl), by first | exact Kd.R_nil _ _ _ _ _ | exact Kd.N_nil _ _ _ _ _ | exact Kd.V_nil _ _ _ _ _ | exact Kd.Q_nil _ _ _ _ _ | exact Kd.S_nil _ _ _ _ _, bz HB⟩
 ·rw [if_neg c2] at H
  have c2b0 : decide ((l0.length : Int) < 8) = false := decide_eq_false c2
  have c2b1 : decide (l0.length < 8) = false := decide_eq_false (by omega)
  clear c2
  replace H := Option.bind_eq_some_iff.mp H
  obtain ⟨t411, A50, H⟩ := H
  replace H : (if (wrap64 (t411)) < 8 then (some (0, 0, 0, ([] : List Int), 21)) else (if (l0.length : Int) < (wrap64 (t411)) then (some (0, 0, 0, ([] : List Int), 20)) else ((lychref1_Get16.f l0 0).bind fun t412 => ((lychref1_Get16.f l0 2).bind fun t413 => ((lychref1_Get16.f l0 6).bind fun t414 => ((lychref1_cut.f l0 8 (wrap64 (t411))).bind fun t415 => (some (t412, t413, t414, t415, 0)))))))) = some (r1, r2, r3, r4, r5) := H
  have A5 := Aside0.mk A50
  clear A50
  by_cases c6 : (wrap64 (t411)) < 8
  ·rw [if_pos c6] at H
   have c6b0 : decide ((wrap64 (t411)) < 8) = true := decide_eq_true c6
   clear c6
   simp only [Option.some.injEq, Prod.mk.injEq] at H
   obtain ⟨rfl, rfl, rfl, rfl, rfl⟩ := H
   go_enter Try.func39, Try.ntmps39
   go_wp2_with (first | ((with_reducible refine gate_dst (N := 2) rfl ?_); refine box_event ?hg (N := 2) ?hd (cs := #[.int .u16 0, .int .u16 0, .int .u16 0, .slice none 0 0]) (t := 83) ?hr ?_; (case hd => rfl); (case hg => rfl); (case hr => first | (go_simp; done) | (go_simp; rfl)); intro gb410 hg w7 hbox hb; have n0_ := Aside0.mk (below_step (bz HB) hb); have n1_ := Aside0.mk (hbox); have n2_ := Aside0.mk ((by rw [hg]; exact (below_size (bz HB)) : w.heap.size ≤ gb410)); have n3_ := Aside0.mk ((by rw [hg]; exact (below_size (bz HB)) : w.heap.size ≤ gb410)); clear HB; have HB := n0_; have BK410 := n1_; have GW410 := n2_; have GE410 := n3_; clear n0_ n1_ n2_ n3_; clear hb hbox hg) | ((with_reducible refine gate_callee (f := 64) rfl ?_); refine gL 10 Try.func64 #[.slice A0 l0.length c0, .int .i64 4] ?_; (with_reducible refine (lychref1_Get16.calls _ _ l0 4 t411 _ ?side1 ?side2 A5.out).mono ?_); (case side1 => exact Kd.C_below HR0.out (bz HB)); (case side2 => exact HC0.out); rintro e w' ⟨rfl, ⟨nd, rfl⟩⟩; refine ⟨_, rfl, ?_⟩; (try (rw [drewN_self w7]; generalize hq_ : World.drewN w7 _ = w7; have n0_ : Aside0 (w7.heap[gb410]? = some (.cells #[.int .u16 0, .int .u16 0, .int .u16 0, .slice none 0 0] 83 (0, 0))) := ⟨by rw [← hq_]; exact (kz BK410)⟩; have n1_ : Aside0 (Below w.heap.size w w7) := ⟨by rw [← hq_]; exact bz HB⟩; clear BK410 HB hq_; have BK410 := n0_; have HB := n1_; clear n0_ n1_)); have hcz8_0 : w7.cell? ⟨gb410, 0, none⟩ = some (.int .u16 0) := cz BK410.out 0 rfl; have hcz8_1 : w7.cell? ⟨gb410, 1, none⟩ = some (.int .u16 0) := cz BK410.out 1 rfl; have hcz8_2 : w7.cell? ⟨gb410, 2, none⟩ = some (.int .u16 0) := cz BK410.out 2 rfl; have hcz8_3 : w7.cell? ⟨gb410, 3, none⟩ = some (.slice none 0 0) := cz BK410.out 3 rfl; have hfz8_0 := blk_frozen BK410.out 0; have hfz8_1 := blk_frozen BK410.out 1; have hfz8_2 := blk_frozen BK410.out 2; have hfz8_3 := blk_frozen BK410.out 3))
   refine bodyPost_ret (results_ct rfl _ _ gb410 83 #[.int .u16 0, .int .u16 0, .int .u16 0, .slice none 0 0] (0, 0) _ rfl (by (repeat (first | with_reducible refine blk_drewN ?_ _ | with_reducible refine blk_drew ?_ | with_reducible refine blk_alloc ?_ _ | refine blk_put (cs := #[.int .u16 0, .int .u16 0, .int .u16 0, .slice none 0 0]) ?_ _ _ rfl)); (with_reducible repeat (first | refine blk_drewN ?_ _ | refine blk_drew ?_ | refine blk_alloc ?_ _)); exact BK410.out) Try.underlying83 rfl (by kernel_rfl)) rfl ?_
   exact ⟨_, by first | rfl | (simp [errW_none, errW_some] <;> rfl) | (simp [*, errW_none, errW_some] <;> rfl), by first | exact Kd.R_nil _ _ _ _ _ | exact Kd.N_nil _ _ _ _ _ | exact Kd.V_nil _ _ _ _ _ | exact Kd.Q_nil _ _ _ _ _ | exact Kd.S_nil _ _ _ _ _, bz HB⟩
  ·rw [if_neg c6] at H
   have c6b0 : decide ((wrap64 (t411)) < 8) = false := decide_eq_false c6
   clear c6
   by_cases c9 : (l0.length : Int) < (wrap64 (t411))
   ·rw [if_pos c9] at H
    have c9b0 : decide ((l0.length : Int) < (wrap64 (t411))) = true := decide_eq_true c9
    clear c9
    simp only [Option.some.injEq, Prod.mk.injEq] at H
    obtain ⟨rfl, rfl, rfl, rfl, rfl⟩ := H
    go_enter Try.func39, Try.ntmps39
    go_wp2_with (first | ((with_reducible refine gate_dst (N := 2) rfl ?_); refine box_event ?hg (N := 2) ?hd (cs := #[.int .u16 0, .int .u16 0, .int .u16 0, .slice none 0 0]) (t := 83) ?hr ?_; (case hd => rfl); (case hg => rfl); (case hr => first | (go_simp; done) | (go_simp; rfl)); intro gb410 hg w10 hbox hb; have n0_ := Aside0.mk (below_step (bz HB) hb); have n1_ := Aside0.mk (hbox); have n2_ := Aside0.mk ((by rw [hg]; exact (below_size (bz HB)) : w.heap.size ≤ gb410)); have n3_ := Aside0.mk ((by rw [hg]; exact (below_size (bz HB)) : w.heap.size ≤ gb410)); clear HB; have HB := n0_; have BK410 := n1_; have GW410 := n2_; have GE410 := n3_; clear n0_ n1_ n2_ n3_; clear hb hbox hg) | ((with_reducible refine gate_callee (f := 64) rfl ?_); refine gL 10 Try.func64 #[.slice A0 l0.length c0, .int .i64 4] ?_; (with_reducible refine (lychref1_Get16.calls _ _ l0 4 t411 _ ?side1 ?side2 A5.out).mono ?_); (case side1 => exact Kd.C_below HR0.out (bz HB)); (case side2 => exact HC0.out); rintro e w' ⟨rfl, ⟨nd, rfl⟩⟩; refine ⟨_, rfl, ?_⟩; (try (rw [drewN_self w10]; generalize hq_ : World.drewN w10 _ = w10; have n0_ : Aside0 (w10.heap[gb410]? = some (.cells #[.int .u16 0, .int .u16 0, .int .u16 0, .slice none 0 0] 83 (0, 0))) := ⟨by rw [← hq_]; exact (kz BK410)⟩; have n1_ : Aside0 (Below w.heap.size w w10) := ⟨by rw [← hq_]; exact bz HB⟩; clear BK410 HB hq_; have BK410 := n0_; have HB := n1_; clear n0_ n1_)); have hcz11_0 : w10.cell? ⟨gb410, 0, none⟩ = some (.int .u16 0) := cz BK410.out 0 rfl; have hcz11_1 : w10.cell? ⟨gb410, 1, none⟩ = some (.int .u16 0) := cz BK410.out 1 rfl; have hcz11_2 : w10.cell? ⟨gb410, 2, none⟩ = some (.int .u16 0) := cz BK410.out 2 rfl; have hcz11_3 : w10.cell? ⟨gb410, 3, none⟩ = some (.slice none 0 0) := cz BK410.out 3 rfl; have hfz11_0 := blk_frozen BK410.out 0; have hfz11_1 := blk_frozen BK410.out 1; have hfz11_2 := blk_frozen BK410.out 2; have hfz11_3 := blk_frozen BK410.out 3))
    refine bodyPost_ret (results_ct rfl _ _ gb410 83 #[.int .u16 0, .int .u16 0, .int .u16 0, .slice none 0 0] (0, 0) _ rfl (by (repeat (first | with_reducible refine blk_drewN ?_ _ | with_reducible refine blk_drew ?_ | with_reducible refine blk_alloc ?_ _ | refine blk_put (cs := #[.int .u16 0, .int .u16 0, .int .u16 0, .slice none 0 0]) ?_ _ _ rfl)); (with_reducible repeat (first | refine blk_drewN ?_ _ | refine blk_drew ?_ | refine blk_alloc ?_ _)); exact BK410.out) Try.underlying83 rfl (by kernel_rfl)) rfl ?_
    exact ⟨_, by first | rfl | (simp [errW_none, errW_some] <;> rfl) | (simp [*, errW_none, errW_some] <;> rfl), by first | exact Kd.R_nil _ _ _ _ _ | exact Kd.N_nil _ _ _ _ _ | exact Kd.V_nil _ _ _ _ _ | exact Kd.Q_nil _ _ _ _ _ | exact Kd.S_nil _ _ _ _ _, bz HB⟩
   ·rw [if_neg c9] at H
    have c9b0 : decide ((l0.length : Int) < (wrap64 (t411))) = false := decide_eq_false c9
    clear c9
    replace H := Option.bind_eq_some_iff.mp H
    obtain ⟨t412, A120, H⟩ := H
    replace H : ((lychref1_Get16.f l0 2).bind fun t413 => ((lychref1_Get16.f l0 6).bind fun t414 => ((lychref1_cut.f l0 8 (wrap64 (t411))).bind fun t415 => (some (t412, t413, t414, t415, 0))))) = some (r1, r2, r3, r4, r5) := H
    have A12 := Aside0.mk A120
    clear A120
    replace H := Option.bind_eq_some_iff.mp H
    obtain ⟨t413, A130, H⟩ := H
    replace H : ((lychref1_Get16.f l0 6).bind fun t414 => ((lychref1_cut.f l0 8 (wrap64 (t411))).bind fun t415 => (some (t412, t413, t414, t415, 0)))) = some (r1, r2, r3, r4, r5) := H
    have A13 := Aside0.mk A130
    clear A130
    replace H := Option.bind_eq_some_iff.mp H
    obtain ⟨t414, A140, H⟩ := H
    replace H : ((lychref1_cut.f l0 8 (wrap64 (t411))).bind fun t415 => (some (t412, t413, t414, t415, 0))) = some (r1, r2, r3, r4, r5) := H
    have A14 := Aside0.mk A140
    clear A140
    replace H := Option.bind_eq_some_iff.mp H
    obtain ⟨t415, A150, H⟩ := H
    replace H : (some (t412, t413, t414, t415, 0)) = some (r1, r2, r3, r4, r5) := H
    have A15 := Aside0.mk A150
    clear A150
    simp only [Option.some.injEq, Prod.mk.injEq] at H
    obtain ⟨rfl, rfl, rfl, rfl, rfl⟩ := H
    go_enter Try.func39, Try.ntmps39
    go_wp2_with (first | ((with_reducible refine gate_dst (N := 2) rfl ?_); refine box_event ?hg (N := 2) ?hd (cs := #[.int .u16 0, .int .u16 0, .int .u16 0, .slice none 0 0]) (t := 83) ?hr ?_; (case hd => rfl); (case hg => rfl); (case hr => first | (go_simp; done) | (go_simp; rfl)); intro gb410 hg w16 hbox hb; have n0_ := Aside0.mk (below_step (bz HB) hb); have n1_ := Aside0.mk (hbox); have n2_ := Aside0.mk ((by rw [hg]; exact (below_size (bz HB)) : w.heap.size ≤ gb410)); have n3_ := Aside0.mk ((by rw [hg]; exact (below_size (bz HB)) : w.heap.size ≤ gb410)); clear HB; have HB := n0_; have BK410 := n1_; have GW410 := n2_; have GE410 := n3_; clear n0_ n1_ n2_ n3_; clear hb hbox hg) | ((with_reducible refine gate_callee (f := 64) rfl ?_); refine gL 10 Try.func64 #[.slice A0 l0.length c0, .int .i64 4] ?_; (with_reducible refine (lychref1_Get16.calls _ _ l0 4 t411 _ ?side1 ?side2 A5.out).mono ?_); (case side1 => exact Kd.C_below HR0.out (bz HB)); (case side2 => exact HC0.out); rintro e w' ⟨rfl, ⟨nd, rfl⟩⟩; refine ⟨_, rfl, ?_⟩; (try (rw [drewN_self w16]; generalize hq_ : World.drewN w16 _ = w16; have n0_ : Aside0 (w16.heap[gb410]? = some (.cells #[.int .u16 0, .int .u16 0, .int .u16 0, .slice none 0 0] 83 (0, 0))) := ⟨by rw [← hq_]; exact (kz BK410)⟩; have n1_ : Aside0 (Below w.heap.size w w16) := ⟨by rw [← hq_]; exact bz HB⟩; clear BK410 HB hq_; have BK410 := n0_; have HB := n1_; clear n0_ n1_))) | ((with_reducible refine gate_callee (f := 64) rfl ?_); refine gL 21 Try.func64 #[.slice A0 l0.length c0, .int .i64 0] ?_; (with_reducible refine (lychref1_Get16.calls _ _ l0 0 t412 _ ?side1 ?side2 A12.out).mono ?_); (case side1 => exact Kd.C_below HR0.out (bz HB)); (case side2 => exact HC0.out); rintro e w' ⟨rfl, ⟨nd, rfl⟩⟩; refine ⟨_, rfl, ?_⟩; (try (rw [drewN_self w16]; generalize hq_ : World.drewN w16 _ = w16; have n0_ : Aside0 (w16.heap[gb410]? = some (.cells #[.int .u16 0, .int .u16 0, .int .u16 0, .slice none 0 0] 83 (0, 0))) := ⟨by rw [← hq_]; exact (kz BK410)⟩; have n1_ : Aside0 (Below w.heap.size w w16) := ⟨by rw [← hq_]; exact bz HB⟩; clear BK410 HB hq_; have BK410 := n0_; have HB := n1_; clear n0_ n1_))) | ((with_reducible refine gate_callee (f := 64) rfl ?_); refine gL 23 Try.func64 #[.slice A0 l0.length c0, .int .i64 2] ?_; (with_reducible refine (lychref1_Get16.calls _ _ l0 2 t413 _ ?side1 ?side2 A13.out).mono ?_); (case side1 => exact Kd.C_below HR0.out (bz HB)); (case side2 => exact HC0.out); rintro e w' ⟨rfl, ⟨nd, rfl⟩⟩; refine ⟨_, rfl, ?_⟩; (try (rw [drewN_self w16]; generalize hq_ : World.drewN w16 _ = w16; have n0_ : Aside0 (w16.heap[gb410]? = some (.cells #[.int .u16 0, .int .u16 0, .int .u16 0, .slice none 0 0] 83 (0, 0))) := ⟨by rw [← hq_]; exact (kz BK410)⟩; have n1_ : Aside0 (Below w.heap.size w w16) := ⟨by rw [← hq_]; exact bz HB⟩; clear BK410 HB hq_; have BK410 := n0_; have HB := n1_; clear n0_ n1_))) | ((with_reducible refine gate_callee (f := 64) rfl ?_); refine gL 25 Try.func64 #[.slice A0 l0.length c0, .int .i64 6] ?_; (with_reducible refine (lychref1_Get16.calls _ _ l0 6 t414 _ ?side1 ?side2 A14.out).mono ?_); (case side1 => exact Kd.C_below HR0.out (bz HB)); (case side2 => exact HC0.out); rintro e w' ⟨rfl, ⟨nd, rfl⟩⟩; refine ⟨_, rfl, ?_⟩; (try (rw [drewN_self w16]; generalize hq_ : World.drewN w16 _ = w16; have n0_ : Aside0 (w16.heap[gb410]? = some (.cells #[.int .u16 0, .int .u16 0, .int .u16 0, .slice none 0 0] 83 (0, 0))) := ⟨by rw [← hq_]; exact (kz BK410)⟩; have n1_ : Aside0 (Below w.heap.size w w16) := ⟨by rw [← hq_]; exact bz HB⟩; clear BK410 HB hq_; have BK410 := n0_; have HB := n1_; clear n0_ n1_))) | ((with_reducible refine gate_callee (f := 65) rfl ?_); refine gL 28 Try.func65 #[.slice A0 l0.length c0, .int .i64 8, .int .i64 (wrap64 (t411))] ?_; (with_reducible refine (lychref1_cut.calls _ _ l0 8 (wrap64 (t411)) t415 _ ?side1 ?side2 A15.out).mono ?_); (case side1 => exact Kd.C_below HR0.out (bz HB)); (case side2 => exact HC0.out); rintro e w17 ⟨v416, rfl, ho0, hb⟩; refine ⟨_, rfl, ?_⟩; have n0_ := Aside0.mk (Kd.R_lower ho0 (below_size (bz HB))); have n1_ := Aside0.mk (blk_below (kz BK410) hb); have n2_ := Aside0.mk (below_step (bz HB) hb); clear BK410; clear HB; have HO417 := n0_; have BK410 := n1_; have HB := n2_; clear n0_ n1_ n2_; (try clear hb); (try clear hb2); (try clear hk); (try clear hi); (try clear ho0); obtain ⟨Ao18, co18, eo18⟩ := Kd.R_slice HO417.out; subst eo18; have hcz19_0 : w17.cell? ⟨gb410, 0, none⟩ = some (.int .u16 0) := cz BK410.out 0 rfl; have hcz19_1 : w17.cell? ⟨gb410, 1, none⟩ = some (.int .u16 0) := cz BK410.out 1 rfl; have hcz19_2 : w17.cell? ⟨gb410, 2, none⟩ = some (.int .u16 0) := cz BK410.out 2 rfl; have hcz19_3 : w17.cell? ⟨gb410, 3, none⟩ = some (.slice none 0 0) := cz BK410.out 3 rfl; have hfz19_0 := blk_frozen BK410.out 0; have hfz19_1 := blk_frozen BK410.out 1; have hfz19_2 := blk_frozen BK410.out 2; have hfz19_3 := blk_frozen BK410.out 3))
    refine bodyPost_ret (results_ct rfl _ _ gb410 83 #[.int .u16 t412, .int .u16 t413, .int .u16 t414, .slice Ao18 t415.length co18] (0, 0) _ rfl (by (with_reducible repeat (first | refine blk_drewN ?_ _ | refine blk_drew ?_ | refine blk_alloc ?_ _)); refine blk_put (cs := #[.int .u16 t412, .int .u16 t413, .int .u16 t414, .slice none 0 0]) ?_ 3 _ rfl; (with_reducible repeat (first | refine blk_drewN ?_ _ | refine blk_drew ?_ | refine blk_alloc ?_ _)); refine blk_put (cs := #[.int .u16 t412, .int .u16 t413, .int .u16 0, .slice none 0 0]) ?_ 2 _ rfl; (with_reducible repeat (first | refine blk_drewN ?_ _ | refine blk_drew ?_ | refine blk_alloc ?_ _)); refine blk_put (cs := #[.int .u16 t412, .int .u16 0, .int .u16 0, .slice none 0 0]) ?_ 1 _ rfl; (with_reducible repeat (first | refine blk_drewN ?_ _ | refine blk_drew ?_ | refine blk_alloc ?_ _)); refine blk_put (cs := #[.int .u16 0, .int .u16 0, .int .u16 0, .slice none 0 0]) ?_ 0 _ rfl; (with_reducible repeat (first | refine blk_drewN ?_ _ | refine blk_drew ?_ | refine blk_alloc ?_ _)); exact BK410.out) Try.underlying83 rfl (by kernel_rfl)) rfl ?_
    exact ⟨_, by first | rfl | (simp [errW_none, errW_some] <;> rfl) | (simp [*, errW_none, errW_some] <;> rfl), by (with_reducible repeat (first | apply Kd.R_alloc | apply Kd.R_drewN | apply Kd.R_drew)); exact Kd.R_mono (Kd.R_far (p := ⟨gb410, 3, none⟩) (Kd.R_far (p := ⟨gb410, 2, none⟩) (Kd.R_far (p := ⟨gb410, 1, none⟩) (Kd.R_far (p := ⟨gb410, 0, none⟩) (Kd.R_types HO417.out BK410.out (by decide)) (fun _ hk => hk.2) (.int .u16 t412)) (fun _ hk => hk.2) (.int .u16 t413)) (fun _ hk => hk.2) (.int .u16 t414)) (fun _ hk => hk.2) (.slice Ao18 t415.length co18)) (fun _ hk => trivial), bz HB⟩
def lychref1_Get32.f (l0 : List Int) (a1 : Int) : Option (Int) := (lychref1_Get16.f l0 a1).bind fun t418 => ((lychref1_Get16.f l0 (wrap64 (a1 + 2))).bind fun t419 => (some (Go.bits .or .u32 ((((t418) % 4294967296) * 65536) % 4294967296) ((t419) % 4294967296))))
theorem lychref1_Get32.calls (A0 : Option Addr) (c0 : Nat) (l0 : List Int) (a1 : Int) (r : Int) (w : World) (hr0 : Kd.C (Kd.int .u8) w A0 l0.length l0) (hc0 : l0.length ≤ c0) (h : lychref1_Get32.f l0 a1 = some r) :
  Calls Try.prog 81 #[.slice A0 l0.length c0, .int .i64 a1] w fun e w' => e = .returned (.int .u32 r) ∧ Drawn0 w w' := by
 have HR0 := Aside0.mk hr0
 have HC0 := Aside0.mk hc0
 clear hr0 hc0
 have H : ((lychref1_Get16.f l0 a1).bind fun t418 => ((lychref1_Get16.f l0 (wrap64 (a1 + 2))).bind fun t419 => (some (Go.bits .or .u32 ((((t418) % 4294967296) * 65536) % 4294967296) ((t419) % 4294967296))))) = some r := h
 clear h
 replace H := Option.bind_eq_some_iff.mp H
 obtain ⟨t418, A30, H⟩ := H
 replace H : ((lychref1_Get16.f l0 (wrap64 (a1 + 2))).bind fun t419 => (some (Go.bits .or .u32 ((((t418) % 4294967296) * 65536) % 4294967296) ((t419) % 4294967296)))) = some r := H
 have A3 := Aside0.mk A30
 clear A30
 replace H := Option.bind_eq_some_iff.mp H
 obtain ⟨t419, A40, H⟩ := H
 replace H : (some (Go.bits .or .u32 ((((t418) % 4294967296) * 65536) % 4294967296) ((t419) % 4294967296))) = some r := H
 have A4 := Aside0.mk A40
 clear A40
 obtain rfl := Option.some.inj H
 go_enter Try.func81, Try.ntmps81
 go_wp2_with (first | ((with_reducible refine gate_callee (f := 64) rfl ?_); refine goesL_ (some 7) rfl rfl Try.func64 (by kernel_rfl) rfl #[.slice A0 l0.length c0, .int .i64 a1] rfl (by (try simp only [List.map_toArray, List.map_cons, List.map_nil]); first | done | rfl | (simp only [List.length_drop, List.length_take]; rfl) | (go_simp; done) | (simp [Act.eval, IntKind.signed]; done) | (simp [Act.eval, IntKind.signed]; rfl)) ?_; (with_reducible refine (lychref1_Get16.calls _ _ l0 a1 t418 _ ?side1 ?side2 A3.out).mono ?_); (case side1 => repeat (first | exact HR0.out | (with_reducible refine Kd.C_alloc ?_ _) | (with_reducible refine Kd.C_drewN ?_ _) | (with_reducible refine Kd.C_drew ?_))); (case side2 => exact HC0.out); rintro e w' ⟨rfl, ⟨nd, rfl⟩⟩; refine ⟨_, rfl, ?_⟩) | ((with_reducible refine gate_callee (f := 64) rfl ?_); refine goesL_ (some 13) rfl rfl Try.func64 (by kernel_rfl) rfl #[.slice A0 l0.length c0, .int .i64 (wrap64 (a1 + 2))] rfl (by (try simp only [List.map_toArray, List.map_cons, List.map_nil]); first | done | rfl | (simp only [List.length_drop, List.length_take]; rfl) | (go_simp; done) | (simp [Act.eval, IntKind.signed]; done) | (simp [Act.eval, IntKind.signed]; rfl)) ?_; (with_reducible refine (lychref1_Get16.calls _ _ l0 (wrap64 (a1 + 2)) t419 _ ?side1 ?side2 A4.out).mono ?_); (case side1 => repeat (first | exact HR0.out | (with_reducible refine Kd.C_alloc ?_ _) | (with_reducible refine Kd.C_drewN ?_ _) | (with_reducible refine Kd.C_drew ?_))); (case side2 => exact HC0.out); rintro e w' ⟨rfl, ⟨nd, rfl⟩⟩; refine ⟨_, rfl, ?_⟩))
 go_ret
 exact ⟨by first | rfl | (simp; done) | (simp [*]; done), by repeat (first | exact Drawn0.refl _ | apply Drawn0.step)⟩
def lychref1_Vxlan.f (l0 : List Int) : Option (Int × List Int × Int) := if (l0.length : Int) < 8 then (some (0, ([] : List Int), 20)) else (if 0 < (l0.length : Int) then (if (Go.bits .and .u8 (rd l0 0) 8) = 0 then (some (0, ([] : List Int), 21)) else ((lychref1_Get32.f l0 4).bind fun t421 => ((lychref1_cut.f l0 8 (l0.length : Int)).bind fun t422 => (some (t421 / 256, t422, 0))))) else (none))
theorem lychref1_Vxlan.calls (A0 : Option Addr) (c0 : Nat) (l0 : List Int) (r1 : Int) (r2 : List Int) (r3 : Int) (w : World) (hr0 : Kd.C (Kd.int .u8) w A0 l0.length l0) (hc0 : l0.length ≤ c0) (h : lychref1_Vxlan.f l0 = some (r1, r2, r3)) :
  Calls Try.prog 62 #[.slice A0 l0.length c0] w fun e w' => ∃ v1_ : Value, e = .returned (.tuple #[.int .u32 r1, v1_, .int .i64 r3]) ∧ Kd.R (Kd.int .u8) 5 w' w.heap.size (fun _ => True) v1_ r2 ∧ Below w.heap.size w w' := by
 have HR0 := Aside0.mk hr0
 have HC0 := Aside0.mk hc0
 clear hr0 hc0
 have HB := Aside0.mk (Below.refl w.heap.size w)
 have H : (if (l0.length : Int) < 8 then (some (0, ([] : List Int), 20)) else (if 0 < (l0.length : Int) then (if (Go.bits .and .u8 (rd l0 0) 8) = 0 then (some (0, ([] : List Int), 21)) else ((lychref1_Get32.f l0 4).bind fun t421 => ((lychref1_cut.f l0 8 (l0.length : Int)).bind fun t422 => (some (t421 / 256, t422, 0))))) else (none))) = some (r1, r2, r3) := h
 clear h
 by_cases c2 : (l0.length : Int) < 8
 ·rw [if_pos c2] at H
  have c2b0 : decide ((l0.length : Int) < 8) = true := decide_eq_true c2
  have c2b1 : decide (l0.length < 8) = true := decide_eq_true (by omega)
  clear c2
  simp only [Option.some.injEq, Prod.mk.injEq] at H
  obtain ⟨rfl, rfl, rfl⟩ := H
  go_enter Try.func62, Try.ntmps62
  go_wp2
  go_ret3
  exact ⟨_, by first | rfl | (simp [errW_none, errW_some] <;> rfl) | (simp [*, errW_none, errW_some] <;> rfl), by first | exact Kd.R_nil _ _ _ _ _ | exact Kd.N_nil _ _ _ _ _ | exact Kd.V_nil _ _ _ _ _ | exact Kd.Q_nil _ _ _ _ _ | exact Kd.S_nil _ _ _ _ _, by repeat (first | exact HB.out | apply below_alloc | apply pw_below_drewN | apply below_drew1)⟩
 ·rw [if_neg c2] at H
  have c2b0 : decide ((l0.length : Int) < 8) = false := decide_eq_false c2
  have c2b1 : decide (l0.length < 8) = false := decide_eq_false (by omega)
  clear c2
  by_cases c3 : 0 < (l0.length : Int)
  ·rw [if_pos c3] at H
   have c3b0 : decide (0 < (l0.length : Int)) = true := decide_eq_true c3
   have c3b1 : decide (0 < l0.length) = true := decide_eq_true (by omega)
   clear c3
   by_cases c4 : (Go.bits .and .u8 (rd l0 0) 8) = 0
   ·rw [if_pos c4] at H
    have c4b0 : ((Go.bits .and .u8 (rd l0 0) 8) == 0) = true := beq_iff_eq.mpr c4
    have c4b1 : ((Go.bits .and .u8 (rd l0 0) 8) != 0) = false := bne_eq_false_iff_eq.mpr c4
    clear c4
    simp only [Option.some.injEq, Prod.mk.injEq] at H
    obtain ⟨rfl, rfl, rfl⟩ := H
    have p420 : 0 ≤ (0 : Int) := (by omega)
    have q420 : 0 < (l0.length : Int) := of_decide_eq_true (by first | (with_reducible assumption) | assumption)
    obtain ⟨ad420, e420, hx420_0⟩ := Kd.at_int HR0.out 0 p420 q420
    cases e420
    have qi420 : (0 < l0.length) = True := eq_true (by omega)
    (try rw [show ((0 : Int)).toNat = 0 from rfl] at hx420_0)
    (try rw [Addr.add_zero'] at hx420_0)
    replace p420 := eq_true p420
    replace q420 := eq_true q420
    go_enter Try.func62, Try.ntmps62
    go_wp2
    go_ret3
    exact ⟨_, by first | rfl | (simp [errW_none, errW_some] <;> rfl) | (simp [*, errW_none, errW_some] <;> rfl), by first | exact Kd.R_nil _ _ _ _ _ | exact Kd.N_nil _ _ _ _ _ | exact Kd.V_nil _ _ _ _ _ | exact Kd.Q_nil _ _ _ _ _ | exact Kd.S_nil _ _ _ _ _, by repeat (first | exact HB.out | apply below_alloc | apply pw_below_drewN | apply below_drew1)⟩
   ·rw [if_neg c4] at H
    have c4b0 : ((Go.bits .and .u8 (rd l0 0) 8) == 0) = false := beq_eq_false_iff_ne.mpr c4
    have c4b1 : ((Go.bits .and .u8 (rd l0 0) 8) != 0) = true := bne_iff_ne.mpr c4
    replace H := Option.bind_eq_some_iff.mp H
    obtain ⟨t421, A50, H⟩ := H
    replace H : ((lychref1_cut.f l0 8 (l0.length : Int)).bind fun t422 => (some (t421 / 256, t422, 0))) = some (r1, r2, r3) := H
    have A5 := Aside0.mk A50
    clear A50
    replace H := Option.bind_eq_some_iff.mp H
    obtain ⟨t422, A60, H⟩ := H
    replace H : (some (t421 / 256, t422, 0)) = some (r1, r2, r3) := H
    have A6 := Aside0.mk A60
    clear A60
    simp only [Option.some.injEq, Prod.mk.injEq] at H
    obtain ⟨rfl, rfl, rfl⟩ := H
    have p420 : 0 ≤ (0 : Int) := (by omega)
    have q420 : 0 < (l0.length : Int) := of_decide_eq_true (by first | (with_reducible assumption) | assumption)
    obtain ⟨ad420, e420, hx420_0⟩ := Kd.at_int HR0.out 0 p420 q420
    cases e420
    have qi420 : (0 < l0.length) = True := eq_true (by omega)
    (try rw [show ((0 : Int)).toNat = 0 from rfl] at hx420_0)
    (try rw [Addr.add_zero'] at hx420_0)
    replace p420 := eq_true p420
    replace q420 := eq_true q420
    go_enter Try.func62, Try.ntmps62
    go_wp2_with (first | ((with_reducible refine gate_callee (f := 81) rfl ?_); refine goesL_ (some 14) rfl rfl Try.func81 (by kernel_rfl) rfl #[.slice (some ad420) l0.length c0, .int .i64 4] rfl (by (try simp only [List.map_toArray, List.map_cons, List.map_nil]); first | done | rfl | (simp only [List.length_drop, List.length_take]; rfl) | (go_simp; done) | (simp [Act.eval, IntKind.signed]; done) | (simp [Act.eval, IntKind.signed]; rfl)) ?_; (with_reducible refine (lychref1_Get32.calls _ _ l0 4 t421 _ ?side1 ?side2 A5.out).mono ?_); (case side1 => repeat (first | exact HR0.out | (with_reducible refine Kd.C_alloc ?_ _) | (with_reducible refine Kd.C_drewN ?_ _) | (with_reducible refine Kd.C_drew ?_))); (case side2 => exact HC0.out); rintro e w' ⟨rfl, ⟨nd, rfl⟩⟩; refine ⟨_, rfl, ?_⟩) | ((with_reducible refine gate_callee (f := 65) rfl ?_); refine goesL_ (some 19) rfl rfl Try.func65 (by kernel_rfl) rfl #[.slice (some ad420) l0.length c0, .int .i64 8, .int .i64 (l0.length : Int)] rfl (by (try simp only [List.map_toArray, List.map_cons, List.map_nil]); first | done | rfl | (simp only [List.length_drop, List.length_take]; rfl) | (go_simp; done) | (simp [Act.eval, IntKind.signed]; done) | (simp [Act.eval, IntKind.signed]; rfl)) ?_; (with_reducible refine (lychref1_cut.calls _ _ l0 8 (l0.length : Int) t422 _ ?side1 ?side2 A6.out).mono ?_); (case side1 => repeat (first | exact HR0.out | (with_reducible refine Kd.C_alloc ?_ _) | (with_reducible refine Kd.C_drewN ?_ _) | (with_reducible refine Kd.C_drew ?_))); (case side2 => exact HC0.out); rintro e w7 ⟨v423, rfl, ho0, hb⟩; refine ⟨_, rfl, ?_⟩; have n0_ := Aside0.mk (Kd.R_lower ho0 (below_size (by repeat (first | exact HB.out | apply below_alloc | apply pw_below_drewN | apply below_drew1)))); have n1_ := Aside0.mk (below_step (by repeat (first | exact HB.out | apply below_alloc | apply pw_below_drewN | apply below_drew1)) hb); clear HB; have HO424 := n0_; have HB := n1_; clear n0_ n1_; (try clear hb); (try clear hb2); (try clear hk); (try clear hi); (try clear ho0)))
    go_ret3
    exact ⟨_, by first | rfl | (simp [errW_none, errW_some] <;> rfl) | (simp [*, errW_none, errW_some] <;> rfl), by (with_reducible repeat (first | apply Kd.R_alloc | apply Kd.R_drewN | apply Kd.R_drew)); exact HO424.out, by repeat (first | exact HB.out | apply below_alloc | apply pw_below_drewN | apply below_drew1)⟩
  ·rw [if_neg c3] at H
   exact absurd H (by simp)
def lychref1_Eth.cs (l0 : List Int) (i : Nat) : Array Value := #[.int .u8 (if 0 < i then rd l0 0 else 0), .int .u8 (if 1 < i then rd l0 1 else 0), .int .u8 (if 2 < i then rd l0 2 else 0), .int .u8 (if 3 < i then rd l0 3 else 0), .int .u8 (if 4 < i then rd l0 4 else 0), .int .u8 (if 5 < i then rd l0 5 else 0), .int .u8 (if 0 < i then rd l0 6 else 0), .int .u8 (if 1 < i then rd l0 7 else 0), .int .u8 (if 2 < i then rd l0 8 else 0), .int .u8 (if 3 < i then rd l0 9 else 0), .int .u8 (if 4 < i then rd l0 10 else 0), .int .u8 (if 5 < i then rd l0 11 else 0), .int .u16 0, .slice none 0 0]
theorem lychref1_Eth.cs_step (l0 : List Int) (i : Nat) (h : i < 6) : ((lychref1_Eth.cs l0 i).setIfInBounds i (.int .u8 (rd l0 (i : Int)))).setIfInBounds (6 + i) (.int .u8 (rd l0 (6 + (i : Int)))) = lychref1_Eth.cs l0 (i + 1) := by
 match i, h with
 | 0, _ => rfl
 | 1, _ => rfl
 | 2, _ => rfl
 | 3, _ => rfl
 | 4, _ => rfl
 | 5, _ => rfl
theorem lychref1_Eth.cs_old (l0 : List Int) (i : Nat) (h : i < 6) : (lychref1_Eth.cs l0 i)[i]? = some (.int .u8 0) ∧ ((lychref1_Eth.cs l0 i).setIfInBounds i (.int .u8 (rd l0 (i : Int))))[6 + i]? = some (.int .u8 0) := by
 match i, h with
 | 0, _ => exact ⟨rfl, rfl⟩
 | 1, _ => exact ⟨rfl, rfl⟩
 | 2, _ => exact ⟨rfl, rfl⟩
 | 3, _ => exact ⟨rfl, rfl⟩
 | 4, _ => exact ⟨rfl, rfl⟩
 | 5, _ => exact ⟨rfl, rfl⟩
def lychref1_Eth.T9 : Bool × List (List Nat × List Nat) := (true, [([], []), ([], []), ([], []), ([], []), ([2, 3], [2, 3]), ([4], [4]), ([], []), ([], []), ([7], [7]), ([6, 8], [6, 8]), ([9], [9]), ([], []), ([11, 0, 0, 2, 3, 4, 5], [0, 11]), ([12, 5, 0, 2, 3, 4, 5], [5, 12]), ([], []), ([14, 1, 0, 1, 2, 3, 4, 5, 6, 7, 8, 9, 10, 11, 12, 13], [1, 14]), ([15, 10, 13, 0, 1, 2, 3, 4, 5, 6, 7, 8, 9, 10, 11, 12, 13], [10, 15])])
def lychref1_Eth.B9 : List Nat := [0, 0, 0, 0, 12, 28, 0, 0, 128, 448, 960, 0, 2109, 6205, 0, 32767, 65535]
theorem lychref1_Eth.tab9 : rtab .any (opsOf Try.f29 9) = lychref1_Eth.T9 := by kernel_rfl
theorem lychref1_Eth.bits9 : waitsOk lychref1_Eth.T9.2 lychref1_Eth.B9 = true := by kernel_rfl
def lychref1_Eth.Z : Array Value := #[.int .u8 0, .int .u8 0, .int .u8 0, .int .u8 0, .int .u8 0, .int .u8 0, .int .u8 0, .int .u8 0, .int .u8 0, .int .u8 0, .int .u8 0, .int .u8 0, .int .u16 0, .slice none 0 0]
def lychref1_Eth.f (l0 : List Int) : Option (Int × Int × Int × Int × Int × Int × Int × Int × Int × Int × Int × Int × Int × List Int × Int) := if (l0.length : Int) > 1600 then some (0, 0, 0, 0, 0, 0, 0, 0, 0, 0, 0, 0, 0, [], 23) else if (l0.length : Int) < 14 then some (0, 0, 0, 0, 0, 0, 0, 0, 0, 0, 0, 0, 0, [], 20) else (lychref1_Get16.f l0 12).bind fun t => (lychref1_cut.f l0 14 (l0.length : Int)).bind fun b => some (rd l0 0, rd l0 1, rd l0 2, rd l0 3, rd l0 4, rd l0 5, rd l0 6, rd l0 7, rd l0 8, rd l0 9, rd l0 10, rd l0 11, t, b, 0)
theorem lychref1_Eth.calls (A0 : Option Addr) (c0 : Nat) (l0 : List Int) (r1 : Int) (r2 : Int) (r3 : Int) (r4 : Int) (r5 : Int) (r6 : Int) (r7 : Int) (r8 : Int) (r9 : Int) (r10 : Int) (r11 : Int) (r12 : Int) (r13 : Int) (r14 : List Int) (r15 : Int) (w : World) (hr0 : Kd.C (Kd.int .u8) w A0 l0.length l0) (hc0 : l0.length ≤ c0) (h : lychref1_Eth.f l0 = some (r1, r2, r3, r4, r5, r6, r7, r8, r9, r10, r11, r12, r13, r14, r15)) :
  Calls Try.prog 29 #[.slice A0 l0.length c0] w fun e w' => ∃ v13_ : Value, e = .returned (.tuple #[.agg #[.int .u8 r1, .int .u8 r2, .int .u8 r3, .int .u8 r4, .int .u8 r5, .int .u8 r6, .int .u8 r7, .int .u8 r8, .int .u8 r9, .int .u8 r10, .int .u8 r11, .int .u8 r12, .int .u16 r13, v13_], .int .i64 r15]) ∧ Kd.R (Kd.int .u8) 5 w' w.heap.size (fun _ => True) v13_ r14 ∧ Below w.heap.size w w' := by
 have hu28 := Try.underlying58
 have HI58 : Aside0 ((Try.prog.info? 58).map (·.size) = some 14) := ⟨by kernel_rfl⟩
 have HR0 := Aside0.mk hr0
 have HC0 := Aside0.mk hc0
 clear hr0 hc0
 have HB := Aside0.mk (Below.refl w.heap.size w)
 unfold lychref1_Eth.f at h
 by_cases c1 : (l0.length : Int) > 1600
 ·rw [if_pos c1] at h
  simp only [Option.some.injEq, Prod.mk.injEq] at h
  obtain ⟨rfl, rfl, rfl, rfl, rfl, rfl, rfl, rfl, rfl, rfl, rfl, rfl, rfl, rfl, rfl⟩ := h
  have c1b : decide (1600 < (l0.length : Int)) = true := decide_eq_true c1
  clear c1
  go_enter Try.func29, Try.ntmps29
  go_upto_region 2 with (first | ((with_reducible refine gate_dst (N := 2) rfl ?_); refine box_event ?hg (N := 2) ?hd (cs := #[.int .u8 0, .int .u8 0, .int .u8 0, .int .u8 0, .int .u8 0, .int .u8 0, .int .u8 0, .int .u8 0, .int .u8 0, .int .u8 0, .int .u8 0, .int .u8 0, .int .u16 0, .slice none 0 0]) (t := 58) ?hr ?_; (case hd => rfl); (case hg => rfl); (case hr => first | (go_simp; done) | (go_simp; rfl)); intro gp hg w1 hbox hb; have n0_ := Aside0.mk (below_step (bz HB) hb); have HP := Aside0.mk hbox; have GP := Aside0.mk ((by rw [hg]; exact (below_size (bz HB))) : w.heap.size ≤ gp); clear HB; have HB := n0_; clear n0_ hb hbox hg))
  go_wp2_with (refine rw_skip rfl rfl (rw_store rfl rfl rfl HP.out HI58.out rfl (by simp [Value.oneCell'])) ?_)
  (try simp only [Exit.inBlock, Exit.then])
  refine bodyPost_ret (results_ct rfl _ _ gp 58 lychref1_Eth.Z (0, 0) _ rfl (rw_row _ HP.out) Try.underlying58 rfl (by kernel_rfl)) rfl ?_
  exact ⟨_, rfl, Kd.R_nil _ _ _ _ _, Off.below (Off.setRow gp _) HB.out GP.out⟩
 ·rw [if_neg c1] at h
  have c1b : decide (1600 < (l0.length : Int)) = false := decide_eq_false c1
  by_cases c2 : (l0.length : Int) < 14
  ·rw [if_pos c2] at h
   simp only [Option.some.injEq, Prod.mk.injEq] at h
   obtain ⟨rfl, rfl, rfl, rfl, rfl, rfl, rfl, rfl, rfl, rfl, rfl, rfl, rfl, rfl, rfl⟩ := h
   have c2b : decide ((l0.length : Int) < 14) = true := decide_eq_true c2
   clear c1 c2
   go_enter Try.func29, Try.ntmps29
   go_upto_region 4 with (first | ((with_reducible refine gate_dst (N := 2) rfl ?_); refine box_event ?hg (N := 2) ?hd (cs := #[.int .u8 0, .int .u8 0, .int .u8 0, .int .u8 0, .int .u8 0, .int .u8 0, .int .u8 0, .int .u8 0, .int .u8 0, .int .u8 0, .int .u8 0, .int .u8 0, .int .u16 0, .slice none 0 0]) (t := 58) ?hr ?_; (case hd => rfl); (case hg => rfl); (case hr => first | (go_simp; done) | (go_simp; rfl)); intro gp hg w1 hbox hb; have n0_ := Aside0.mk (below_step (bz HB) hb); have HP := Aside0.mk hbox; have GP := Aside0.mk ((by rw [hg]; exact (below_size (bz HB))) : w.heap.size ≤ gp); clear HB; have HB := n0_; clear n0_ hb hbox hg))
   go_wp2_with (refine rw_skip rfl rfl (rw_store rfl rfl rfl HP.out HI58.out rfl (by simp [Value.oneCell'])) ?_)
   (try simp only [Exit.inBlock, Exit.then])
   refine bodyPost_ret (results_ct rfl _ _ gp 58 lychref1_Eth.Z (0, 0) _ rfl (rw_row _ HP.out) Try.underlying58 rfl (by kernel_rfl)) rfl ?_
   exact ⟨_, rfl, Kd.R_nil _ _ _ _ _, Off.below (Off.setRow gp _) HB.out GP.out⟩
  ·rw [if_neg c2] at h
   have c2b : decide ((l0.length : Int) < 14) = false := decide_eq_false c2
   obtain ⟨t, ht, h⟩ := Option.bind_eq_some_iff.mp h
   obtain ⟨b, hb, h⟩ := Option.bind_eq_some_iff.mp h
   simp only [Option.some.injEq, Prod.mk.injEq] at h
   obtain ⟨rfl, rfl, rfl, rfl, rfl, rfl, rfl, rfl, rfl, rfl, rfl, rfl, rfl, rfl, rfl⟩ := h
   have L14 := Aside0.mk (show 14 ≤ l0.length by omega)
   have A1 := Aside0.mk ht
   have A2 := Aside0.mk hb
   clear c1 c2 hb ht
   obtain ⟨ad, rfl, _⟩ := Kd.at_int HR0.out 0 (by omega) (by have := L14.out; omega)
   go_enter Try.func29, Try.ntmps29
   go_wp2_with (first | ((with_reducible refine gate_dst (N := 2) rfl ?_); refine box_event ?hg (N := 2) ?hd (cs := #[.int .u8 0, .int .u8 0, .int .u8 0, .int .u8 0, .int .u8 0, .int .u8 0, .int .u8 0, .int .u8 0, .int .u8 0, .int .u8 0, .int .u8 0, .int .u8 0, .int .u16 0, .slice none 0 0]) (t := 58) ?hr ?_; (case hd => rfl); (case hg => rfl); (case hr => first | (go_simp; done) | (go_simp; rfl)); intro gp hg w1 hbox hb; have n0_ := Aside0.mk (below_step (bz HB) hb); have HP := Aside0.mk hbox; have GP := Aside0.mk ((by rw [hg]; exact (below_size (bz HB))) : w.heap.size ≤ gp); clear HB; have HB := n0_; clear n0_ hb hbox hg) | ((with_reducible refine gate_dst (N := 4) rfl ?_); refine box_event ?hg (N := 4) ?hd (cs := #[.int .u8 0, .int .u8 0, .int .u8 0, .int .u8 0, .int .u8 0, .int .u8 0, .int .u8 0, .int .u8 0, .int .u8 0, .int .u8 0, .int .u8 0, .int .u8 0, .int .u16 0, .slice none 0 0]) (t := 58) ?hr ?_; (case hd => rfl); (case hg => rfl); (case hr => first | (go_simp; done) | (go_simp; rfl)); intro ge hg w2 hbox hb; have n0_ := Aside0.mk (below_step (bz HB) hb); have GN := Aside0.mk (show gp ≠ ge by rw [hg]; exact Nat.ne_of_lt (blk_lt (kz HP))); have n1_ := Aside0.mk (blk_below (kz HP) hb); have HE := Aside0.mk hbox; have GE := Aside0.mk ((by rw [hg]; exact (below_size (bz HB))) : w.heap.size ≤ ge); clear HB HP; have HB := n0_; have HP := n1_; clear n0_ n1_ hb hbox hg))
   go_loopg [5] 6 (fun kq v5 w' => ∃ i : Nat, v5 = .int .i64 (i : Int) ∧ Aside0 (i ≤ 6) ∧ Aside0 (kq + i = 6) ∧ Aside0 (w'.heap[ge]? = some (.cells (lychref1_Eth.cs l0 i) 58 (0, 0))) ∧ Aside0 (w'.heap[gp]? = some (.cells #[.int .u8 0, .int .u8 0, .int .u8 0, .int .u8 0, .int .u8 0, .int .u8 0, .int .u8 0, .int .u8 0, .int .u8 0, .int .u8 0, .int .u8 0, .int .u8 0, .int .u16 0, .slice none 0 0] 58 (0, 0))) ∧ Aside0 (Below w.heap.size w w'))
   case atStart => exact ⟨0, rfl, ⟨by omega⟩, ⟨rfl⟩, ⟨HE.out⟩, ⟨HP.out⟩, ⟨HB.out⟩⟩
   case round =>
    clear HE HP HB
    obtain ⟨i, rfl, Hi, Hk, HE, HP, HB⟩ := hrel
    by_cases c6 : i < 6
    ·have c6b : decide ((i : Int) < 6) = true := decide_eq_true (by omega)
     have H6 := Aside0.mk c6
     clear c6
     go_upto_region 9 with (fail)
     have hi1 : w.cell? (ad.add i) = some (.int .u8 (rd l0 (i : Int))) := by
      obtain ⟨ad2, e, hx⟩ := Kd.at_int HR0.out (i : Int) (by omega) (by have := L14.out; have := H6.out; omega)
      cases e
      rw [Int.toNat_natCast] at hx
      exact hx
     have hi2 : w.cell? (ad.add (6 + i)) = some (.int .u8 (rd l0 (6 + (i : Int)))) := by
      obtain ⟨ad2, e, hx⟩ := Kd.at_int HR0.out (6 + (i : Int)) (by omega) (by have := L14.out; have := H6.out; omega)
      cases e
      rw [show (6 + (i : Int)).toNat = 6 + i from by omega] at hx
      exact hx
     have HI1 := Aside0.mk hi1
     have HI2 := Aside0.mk hi2
     clear hi1 hi2
     have q0 : (0 ≤ (i : Int)) = True := eq_true (by omega)
     have q1 : ((i : Int) < (l0.length : Int)) = True := eq_true (by have := L14.out; have := H6.out; omega)
     have q2 : (i < l0.length) = True := eq_true (by have := L14.out; have := H6.out; omega)
     have q3 : ((i : Int) < 6) = True := eq_true (by have := H6.out; omega)
     have q4 : (i < 6) = True := eq_true H6.out
     have w6 : wrap64 (6 + (i : Int)) = 6 + (i : Int) := by unfold wrap64; have := H6.out; omega
     have w6i : IntKind.i64.wrap (6 + (i : Int)) = 6 + (i : Int) := (i64_w _).trans w6
     have q5 : (0 ≤ 6 + (i : Int)) = True := eq_true (by omega)
     have q6 : (6 + (i : Int) < (l0.length : Int)) = True := eq_true (by have := L14.out; have := H6.out; omega)
     have n6 : (6 + (i : Int)).toNat = 6 + i := by omega
     refine start_ (n := 17) (S := fun w' => w'.cell? (ad.add i) = some (.int .u8 (rd l0 (i : Int))) ∧ w'.cell? (ad.add (6 + i)) = some (.int .u8 (rd l0 (6 + (i : Int))))) (ds := []) #[false, false, false, false, false, false, false, false, false, false, false, false, false, false, false, false, false] (by kernel_rfl) rfl rfl ⟨(HB.out.cell (World.block_lt_of_cell? w _ HI1.out)).trans HI1.out, (HB.out.cell (World.block_lt_of_cell? w _ HI2.out)).trans HI2.out⟩ (fun hHeld => ?_)
     refine with_tabW lychref1_Eth.tab9 lychref1_Eth.bits9 (fun HT_ HW_ => ?_)
     refine pz 0 18 HT_ ?_
     refine pz 1 19 HT_ ?_
     refine pz 2 20 HT_ ?_
     refine pz 3 21 HT_ ?_
     refine pz 4 22 HT_ ?_
     refine take_ (i := 5) (N := some 23) (v := ?_) (a' := ?_) #[true, true, true, true, true, true, false, false, false, false, false, false, false, false, false, false, false] rfl rfl (take_ofW HT_.out HW_.out (by kernel_rfl)) (fun _ _ _ h => h) (Or.inl ⟨by rfl, ?_⟩) hHeld ?_ ?_
     rotate_left
     ·rintro w' ⟨s0, s1⟩
      go_simp
      with_reducible rfl
     rotate_left
     ·simp only [ps_]
      rfl
     refine pz 6 24 HT_ ?_
     refine pz 7 25 HT_ ?_
     refine pz 8 26 HT_ ?_
     refine pz 9 27 HT_ ?_
     refine take_ (i := 10) (N := some 28) (v := ?_) (a' := ?_) #[true, true, true, true, true, true, true, true, true, true, true, false, false, false, false, false, false] rfl rfl (take_ofW HT_.out HW_.out (by kernel_rfl)) (fun _ _ _ h => h) (Or.inl ⟨by rfl, ?_⟩) hHeld ?_ ?_
     rotate_left
     ·rintro w' ⟨s0, s1⟩
      go_simp
      with_reducible rfl
     rotate_left
     ·simp only [ps_]
      rfl
     refine pz 11 29 HT_ ?_
     refine pz 12 30 HT_ ?_
     refine pz 14 31 HT_ ?_
     refine oz 13 (none) HT_ (fun K hK => ?_)
     have HP1 := Aside0.mk (blk_drew HP.out)
     have HE1 := Aside0.mk (blk_drew HE.out)
     have HB1 := Aside0.mk (below_drew1 HB.out)
     have hs0 : wr.drew.cell? ⟨ge, i, none⟩ = some (.int .u8 0) := (blk_cell HE1.out i).trans (lychref1_Eth.cs_old l0 i H6.out).1
     have hfs0 := blk_frozen HE1.out i
     clear HP HE HB
     generalize wr.drew = wa at HP1 HE1 HB1 hs0 hfs0 hHeld ⊢
     refine skip_ (w1 := wa.setCell ⟨ge, i, none⟩ (.int .u8 (rd l0 (i : Int)))) (by rfl) rfl ?_ ?_
     ·go_simp
     have HLT : ad.block < w.heap.size := by have h_ := World.block_lt_of_cell? w _ HI1.out; rwa [add_block] at h_
     have HNE : ad.block ≠ ge := Nat.ne_of_lt (Nat.lt_of_lt_of_le HLT GE.out)
     have f1 := Aside0.mk (blk_set HE1.out i (.int .u8 (rd l0 (i : Int))))
     have f2 := Aside0.mk (blk_far HP1.out (p := ⟨ge, i, none⟩) GN.out (.int .u8 (rd l0 (i : Int))))
     have f3 := Aside0.mk (Below.setCell (p := ⟨ge, i, none⟩) HB1.out GE.out (.int .u8 (rd l0 (i : Int))))
     have f4 := Aside0.mk ((cell_far (W := wa) (a := ad.add i) (p := ⟨ge, i, none⟩) (by rw [add_block]; exact HNE) (.int .u8 (rd l0 (i : Int)))).trans hHeld.1)
     have f5 := Aside0.mk ((cell_far (W := wa) (a := ad.add (6 + i)) (p := ⟨ge, i, none⟩) (by rw [add_block]; exact HNE) (.int .u8 (rd l0 (i : Int)))).trans hHeld.2)
     clear hs0 hfs0 HE1 HP1 HB1 hHeld
     generalize wa.setCell ⟨ge, i, none⟩ (.int .u8 (rd l0 (i : Int))) = wb at f1 f2 f3 f4 f5 ⊢
     refine hK.out _ _ ⟨f4.out, f5.out⟩ (fun hHeld => ?_)
     clear hK K f4 f5
     refine pz 15 32 HT_ ?_
     refine oz 16 (none) HT_ (fun K hK => ?_)
     have hs0 : wb.cell? ⟨ge, 6 + i, none⟩ = some (.int .u8 0) := (blk_cell f1.out (6 + i)).trans (lychref1_Eth.cs_old l0 i H6.out).2
     have hfs0 := blk_frozen f1.out (6 + i)
     refine skip_ (w1 := wb.setCell ⟨ge, 6 + i, none⟩ (.int .u8 (rd l0 (6 + (i : Int))))) (by rfl) rfl ?_ ?_
     ·go_simp
     have g1 := Aside0.mk (blk_put (cs' := lychref1_Eth.cs l0 (i + 1)) f1.out (6 + i) (.int .u8 (rd l0 (6 + (i : Int)))) (lychref1_Eth.cs_step l0 i H6.out))
     have g2 := Aside0.mk (blk_far f2.out (p := ⟨ge, 6 + i, none⟩) GN.out (.int .u8 (rd l0 (6 + (i : Int)))))
     have g3 := Aside0.mk (Below.setCell (p := ⟨ge, 6 + i, none⟩) f3.out GE.out (.int .u8 (rd l0 (6 + (i : Int)))))
     have g4 := Aside0.mk ((cell_far (W := wb) (a := ad.add i) (p := ⟨ge, 6 + i, none⟩) (by rw [add_block]; exact HNE) (.int .u8 (rd l0 (6 + (i : Int))))).trans hHeld.1)
     have g5 := Aside0.mk ((cell_far (W := wb) (a := ad.add (6 + i)) (p := ⟨ge, 6 + i, none⟩) (by rw [add_block]; exact HNE) (.int .u8 (rd l0 (6 + (i : Int))))).trans hHeld.2)
     clear hs0 hfs0 f1 f2 f3 hHeld
     generalize wb.setCell ⟨ge, 6 + i, none⟩ (.int .u8 (rd l0 (6 + (i : Int)))) = wc at g1 g2 g3 g4 g5 ⊢
     refine hK.out _ _ ⟨g4.out, g5.out⟩ (fun hHeld => ?_)
     clear hK K g4 g5
     refine dz HT_ ?_
     clear HT_ HW_ hHeld
     have w7 : wrap64 ((i : Int) + 1) = (i : Int) + 1 := by unfold wrap64; have := H6.out; omega
     (try simp only [Exit.inBlock, Exit.then])
     go_wp2
     go_roundg (gk - 1)
     case measure => have := Hk.out; have := H6.out; omega
     case rel => exact ⟨i + 1, by first | rfl | (simp [w7]; done) | (simp only [w7]; rfl), ⟨by have := H6.out; omega⟩, ⟨by have := Hk.out; have := H6.out; omega⟩, ⟨g1.out⟩, ⟨g2.out⟩, ⟨g3.out⟩⟩
    ·have c6b : decide ((i : Int) < 6) = false := decide_eq_false (by omega)
     obtain rfl : i = 6 := by have := Hi.out; omega
     clear c6 Hi Hk
     have HE6 : Aside0 (wr.heap[ge]? = some (.cells #[.int .u8 (rd l0 0), .int .u8 (rd l0 1), .int .u8 (rd l0 2), .int .u8 (rd l0 3), .int .u8 (rd l0 4), .int .u8 (rd l0 5), .int .u8 (rd l0 6), .int .u8 (rd l0 7), .int .u8 (rd l0 8), .int .u8 (rd l0 9), .int .u8 (rd l0 10), .int .u8 (rd l0 11), .int .u16 0, .slice none 0 0] 58 (0, 0))) := ⟨HE.out⟩
     clear HE
     have HE := HE6
     clear HE6
     go_wp2_with fail
     refine (lychref1_Get16.calls (some ad) c0 l0 12 t _ (Kd.C_below HR0.out (bz HB)) HC0.out A1.out).mono ?_
     rintro e w3 ⟨rfl, ⟨nd, rfl⟩⟩
     (try dsimp only)
     go_wp2_with fail
     refine (lychref1_cut.calls (some ad) c0 l0 14 (l0.length : Int) b _ (Kd.C_below HR0.out (bz HB)) HC0.out A2.out).mono ?_
     rintro e w4 ⟨v, rfl, ho, hb⟩
     (try dsimp only)
     have HO := Aside0.mk (Kd.R_lower ho (below_size (bz HB)))
     have n0_ := Aside0.mk (blk_below (kz HP) hb)
     have n2_ := Aside0.mk (blk_below (kz HE) hb)
     have n1_ := Aside0.mk (below_step (bz HB) hb)
     clear HP HB HE ho hb
     have HP := n0_
     have HB := n1_
     have HE := n2_
     clear n0_ n1_ n2_
     obtain ⟨Bo, co, eo⟩ := Kd.R_slice HO.out
     subst eo
     have hgp0_ := cs14 HP.out
     have hfgp0_ := blk_frozen HP.out
     have hge0_ := cs14 HE.out
     have hfge0_ := blk_frozen HE.out
     have hnge : gp ≠ ge := GN.out
     have hneg : ge ≠ gp := fun e => hnge e.symm
     go_wp2
     clear hgp0_ hfgp0_ hge0_ hfge0_
     have b0 := HP.out
     have l0_ := HB.out
     have u0 := HO.out
     have e0 := HE.out
     have e1 := blk_put (cs' := #[.int .u8 (rd l0 0), .int .u8 (rd l0 1), .int .u8 (rd l0 2), .int .u8 (rd l0 3), .int .u8 (rd l0 4), .int .u8 (rd l0 5), .int .u8 (rd l0 6), .int .u8 (rd l0 7), .int .u8 (rd l0 8), .int .u8 (rd l0 9), .int .u8 (rd l0 10), .int .u8 (rd l0 11), .int .u16 t, .slice none 0 0]) e0 12 (.int .u16 t) rfl
     have b1 := blk_far b0 (p := ⟨ge, 12, none⟩) GN.out (.int .u16 t)
     have l1_ := Below.setCell (p := ⟨ge, 12, none⟩) l0_ GE.out (.int .u16 t)
     have u1 := Kd.R_set u0 e0 (by decide) 12 (.int .u16 t)
     clear b0 l0_ u0 e0
     have b2 := blk_far b1 (p := ⟨ge, 13, none⟩) GN.out (.slice Bo b.length co)
     have l2_ := Below.setCell (p := ⟨ge, 13, none⟩) l1_ GE.out (.slice Bo b.length co)
     have u2 := Kd.R_set u1 e1 (by decide) 13 (.slice Bo b.length co)
     clear b1 l1_ u1 e1
     have b3 := blk_put (cs' := #[.int .u8 (rd l0 0), .int .u8 0, .int .u8 0, .int .u8 0, .int .u8 0, .int .u8 0, .int .u8 0, .int .u8 0, .int .u8 0, .int .u8 0, .int .u8 0, .int .u8 0, .int .u16 0, .slice none 0 0]) b2 0 (.int .u8 (rd l0 0)) rfl
     have l3_ := Below.setCell (p := ⟨gp, 0, none⟩) l2_ GP.out (.int .u8 (rd l0 0))
     have u3 := Kd.R_set u2 b2 (by decide) 0 (.int .u8 (rd l0 0))
     clear b2 l2_ u2
     have b4 := blk_put (cs' := #[.int .u8 (rd l0 0), .int .u8 (rd l0 1), .int .u8 0, .int .u8 0, .int .u8 0, .int .u8 0, .int .u8 0, .int .u8 0, .int .u8 0, .int .u8 0, .int .u8 0, .int .u8 0, .int .u16 0, .slice none 0 0]) b3 1 (.int .u8 (rd l0 1)) rfl
     have l4_ := Below.setCell (p := ⟨gp, 1, none⟩) l3_ GP.out (.int .u8 (rd l0 1))
     have u4 := Kd.R_set u3 b3 (by decide) 1 (.int .u8 (rd l0 1))
     clear b3 l3_ u3
     have b5 := blk_put (cs' := #[.int .u8 (rd l0 0), .int .u8 (rd l0 1), .int .u8 (rd l0 2), .int .u8 0, .int .u8 0, .int .u8 0, .int .u8 0, .int .u8 0, .int .u8 0, .int .u8 0, .int .u8 0, .int .u8 0, .int .u16 0, .slice none 0 0]) b4 2 (.int .u8 (rd l0 2)) rfl
     have l5_ := Below.setCell (p := ⟨gp, 2, none⟩) l4_ GP.out (.int .u8 (rd l0 2))
     have u5 := Kd.R_set u4 b4 (by decide) 2 (.int .u8 (rd l0 2))
     clear b4 l4_ u4
     have b6 := blk_put (cs' := #[.int .u8 (rd l0 0), .int .u8 (rd l0 1), .int .u8 (rd l0 2), .int .u8 (rd l0 3), .int .u8 0, .int .u8 0, .int .u8 0, .int .u8 0, .int .u8 0, .int .u8 0, .int .u8 0, .int .u8 0, .int .u16 0, .slice none 0 0]) b5 3 (.int .u8 (rd l0 3)) rfl
     have l6_ := Below.setCell (p := ⟨gp, 3, none⟩) l5_ GP.out (.int .u8 (rd l0 3))
     have u6 := Kd.R_set u5 b5 (by decide) 3 (.int .u8 (rd l0 3))
     clear b5 l5_ u5
     have b7 := blk_put (cs' := #[.int .u8 (rd l0 0), .int .u8 (rd l0 1), .int .u8 (rd l0 2), .int .u8 (rd l0 3), .int .u8 (rd l0 4), .int .u8 0, .int .u8 0, .int .u8 0, .int .u8 0, .int .u8 0, .int .u8 0, .int .u8 0, .int .u16 0, .slice none 0 0]) b6 4 (.int .u8 (rd l0 4)) rfl
     have l7_ := Below.setCell (p := ⟨gp, 4, none⟩) l6_ GP.out (.int .u8 (rd l0 4))
     have u7 := Kd.R_set u6 b6 (by decide) 4 (.int .u8 (rd l0 4))
     clear b6 l6_ u6
     have b8 := blk_put (cs' := #[.int .u8 (rd l0 0), .int .u8 (rd l0 1), .int .u8 (rd l0 2), .int .u8 (rd l0 3), .int .u8 (rd l0 4), .int .u8 (rd l0 5), .int .u8 0, .int .u8 0, .int .u8 0, .int .u8 0, .int .u8 0, .int .u8 0, .int .u16 0, .slice none 0 0]) b7 5 (.int .u8 (rd l0 5)) rfl
     have l8_ := Below.setCell (p := ⟨gp, 5, none⟩) l7_ GP.out (.int .u8 (rd l0 5))
     have u8 := Kd.R_set u7 b7 (by decide) 5 (.int .u8 (rd l0 5))
     clear b7 l7_ u7
     have b9 := blk_put (cs' := #[.int .u8 (rd l0 0), .int .u8 (rd l0 1), .int .u8 (rd l0 2), .int .u8 (rd l0 3), .int .u8 (rd l0 4), .int .u8 (rd l0 5), .int .u8 (rd l0 6), .int .u8 0, .int .u8 0, .int .u8 0, .int .u8 0, .int .u8 0, .int .u16 0, .slice none 0 0]) b8 6 (.int .u8 (rd l0 6)) rfl
     have l9_ := Below.setCell (p := ⟨gp, 6, none⟩) l8_ GP.out (.int .u8 (rd l0 6))
     have u9 := Kd.R_set u8 b8 (by decide) 6 (.int .u8 (rd l0 6))
     clear b8 l8_ u8
     have b10 := blk_put (cs' := #[.int .u8 (rd l0 0), .int .u8 (rd l0 1), .int .u8 (rd l0 2), .int .u8 (rd l0 3), .int .u8 (rd l0 4), .int .u8 (rd l0 5), .int .u8 (rd l0 6), .int .u8 (rd l0 7), .int .u8 0, .int .u8 0, .int .u8 0, .int .u8 0, .int .u16 0, .slice none 0 0]) b9 7 (.int .u8 (rd l0 7)) rfl
     have l10_ := Below.setCell (p := ⟨gp, 7, none⟩) l9_ GP.out (.int .u8 (rd l0 7))
     have u10 := Kd.R_set u9 b9 (by decide) 7 (.int .u8 (rd l0 7))
     clear b9 l9_ u9
     have b11 := blk_put (cs' := #[.int .u8 (rd l0 0), .int .u8 (rd l0 1), .int .u8 (rd l0 2), .int .u8 (rd l0 3), .int .u8 (rd l0 4), .int .u8 (rd l0 5), .int .u8 (rd l0 6), .int .u8 (rd l0 7), .int .u8 (rd l0 8), .int .u8 0, .int .u8 0, .int .u8 0, .int .u16 0, .slice none 0 0]) b10 8 (.int .u8 (rd l0 8)) rfl
     have l11_ := Below.setCell (p := ⟨gp, 8, none⟩) l10_ GP.out (.int .u8 (rd l0 8))
     have u11 := Kd.R_set u10 b10 (by decide) 8 (.int .u8 (rd l0 8))
     clear b10 l10_ u10
     have b12 := blk_put (cs' := #[.int .u8 (rd l0 0), .int .u8 (rd l0 1), .int .u8 (rd l0 2), .int .u8 (rd l0 3), .int .u8 (rd l0 4), .int .u8 (rd l0 5), .int .u8 (rd l0 6), .int .u8 (rd l0 7), .int .u8 (rd l0 8), .int .u8 (rd l0 9), .int .u8 0, .int .u8 0, .int .u16 0, .slice none 0 0]) b11 9 (.int .u8 (rd l0 9)) rfl
     have l12_ := Below.setCell (p := ⟨gp, 9, none⟩) l11_ GP.out (.int .u8 (rd l0 9))
     have u12 := Kd.R_set u11 b11 (by decide) 9 (.int .u8 (rd l0 9))
     clear b11 l11_ u11
     have b13 := blk_put (cs' := #[.int .u8 (rd l0 0), .int .u8 (rd l0 1), .int .u8 (rd l0 2), .int .u8 (rd l0 3), .int .u8 (rd l0 4), .int .u8 (rd l0 5), .int .u8 (rd l0 6), .int .u8 (rd l0 7), .int .u8 (rd l0 8), .int .u8 (rd l0 9), .int .u8 (rd l0 10), .int .u8 0, .int .u16 0, .slice none 0 0]) b12 10 (.int .u8 (rd l0 10)) rfl
     have l13_ := Below.setCell (p := ⟨gp, 10, none⟩) l12_ GP.out (.int .u8 (rd l0 10))
     have u13 := Kd.R_set u12 b12 (by decide) 10 (.int .u8 (rd l0 10))
     clear b12 l12_ u12
     have b14 := blk_put (cs' := #[.int .u8 (rd l0 0), .int .u8 (rd l0 1), .int .u8 (rd l0 2), .int .u8 (rd l0 3), .int .u8 (rd l0 4), .int .u8 (rd l0 5), .int .u8 (rd l0 6), .int .u8 (rd l0 7), .int .u8 (rd l0 8), .int .u8 (rd l0 9), .int .u8 (rd l0 10), .int .u8 (rd l0 11), .int .u16 0, .slice none 0 0]) b13 11 (.int .u8 (rd l0 11)) rfl
     have l14_ := Below.setCell (p := ⟨gp, 11, none⟩) l13_ GP.out (.int .u8 (rd l0 11))
     have u14 := Kd.R_set u13 b13 (by decide) 11 (.int .u8 (rd l0 11))
     clear b13 l13_ u13
     have b15 := blk_put (cs' := #[.int .u8 (rd l0 0), .int .u8 (rd l0 1), .int .u8 (rd l0 2), .int .u8 (rd l0 3), .int .u8 (rd l0 4), .int .u8 (rd l0 5), .int .u8 (rd l0 6), .int .u8 (rd l0 7), .int .u8 (rd l0 8), .int .u8 (rd l0 9), .int .u8 (rd l0 10), .int .u8 (rd l0 11), .int .u16 t, .slice none 0 0]) b14 12 (.int .u16 t) rfl
     have l15_ := Below.setCell (p := ⟨gp, 12, none⟩) l14_ GP.out (.int .u16 t)
     have u15 := Kd.R_set u14 b14 (by decide) 12 (.int .u16 t)
     clear b14 l14_ u14
     have b16 := blk_put (cs' := #[.int .u8 (rd l0 0), .int .u8 (rd l0 1), .int .u8 (rd l0 2), .int .u8 (rd l0 3), .int .u8 (rd l0 4), .int .u8 (rd l0 5), .int .u8 (rd l0 6), .int .u8 (rd l0 7), .int .u8 (rd l0 8), .int .u8 (rd l0 9), .int .u8 (rd l0 10), .int .u8 (rd l0 11), .int .u16 t, .slice Bo b.length co]) b15 13 (.slice Bo b.length co) rfl
     have l16_ := Below.setCell (p := ⟨gp, 13, none⟩) l15_ GP.out (.slice Bo b.length co)
     have u16 := Kd.R_set u15 b15 (by decide) 13 (.slice Bo b.length co)
     clear b15 l15_ u15
     (try simp only [Exit.inBlock, Exit.then])
     refine bodyPost_ret (results_ct rfl _ _ gp 58 #[.int .u8 (rd l0 0), .int .u8 (rd l0 1), .int .u8 (rd l0 2), .int .u8 (rd l0 3), .int .u8 (rd l0 4), .int .u8 (rd l0 5), .int .u8 (rd l0 6), .int .u8 (rd l0 7), .int .u8 (rd l0 8), .int .u8 (rd l0 9), .int .u8 (rd l0 10), .int .u8 (rd l0 11), .int .u16 t, .slice Bo b.length co] (0, 0) _ rfl b16 Try.underlying58 rfl (by kernel_rfl)) rfl ?_
     exact ⟨_, rfl, u16, l16_⟩
end Go.Proofs.Ytkmimamminddiaa.PB
