-- written by a patched print
import Derived.Test.YtnodigdpodiphaaPAx0
import Derived.Test.YtnodigdpodiphaaPAx5
namespace Go.Proofs.Ytnodigdpodiphaa.PA
open Go.RowKit Go.Proofs.YtnodigdpodiphaaW.PrintWords Go.Proofs.YtnodigdpodiphaaW.PrintLast Go.Proofs.YtnodigdpodiphaaW.PrintMore
attribute [local go_sem] max2_int min2_int max_two min_two max_three min_three max_four min_four   -- for this text's walks alone
set_option linter.unusedVariables false
set_option linter.unusedSimpArgs false

/-! ### lychref1_Fold: function 37 -/
def lychref1_Fold.l0 : Nat → Int → Option (Int)
  | 0, _ => none
  | k + 1, x0 => if (x0 / 65536) = 0 then (some (IntKind.u16.wrap (x0))) else (lychref1_Fold.l0 k (((x0 / 65536) + (Go.bits .and .u32 x0 65535)) % 4294967296))
def lychref1_Fold.f (k : Nat) (a0 : Int) : Option (Int) := lychref1_Fold.l0 k a0
theorem lychref1_Fold.mono_l : ∀ k, (∀ y0, LeO (lychref1_Fold.l0 k y0) (lychref1_Fold.l0 (k + 1) y0))
  | 0 => fun _ r h => by simp [lychref1_Fold.l0] at h
  | k + 1 => by
    have ih0 := lychref1_Fold.mono_l k
    · intro y0
      unfold lychref1_Fold.l0
      repeat' first
      | (with_reducible exact ih0 _)
      | (with_reducible exact LeO.refl _)
      | (with_reducible exact LeO.none _)
      | (with_reducible refine LeO.ite ?_ ?_)
      | (with_reducible refine LeO.bind ?_ (fun _ => ?_))
      | exact ih0 _
      | exact LeO.none _
      | refine LeO.ite ?_ ?_
      | refine LeO.bind ?_ (fun _ => ?_)
theorem lychref1_Fold.mono : ∀ a0 k, LeO (lychref1_Fold.f k a0) (lychref1_Fold.f (k + 1) a0) := by
  intro a0 k
  have ih0 := lychref1_Fold.mono_l k
  unfold lychref1_Fold.f
  repeat' first
      | (with_reducible exact ih0 _)
      | (with_reducible exact LeO.refl _)
      | (with_reducible exact LeO.none _)
      | (with_reducible refine LeO.ite ?_ ?_)
      | (with_reducible refine LeO.bind ?_ (fun _ => ?_))
      | exact ih0 _
      | exact LeO.none _
      | refine LeO.ite ?_ ?_
      | refine LeO.bind ?_ (fun _ => ?_)
set_option maxHeartbeats 8000000 in
set_option maxRecDepth 100000 in
theorem lychref1_Fold.calls (k : Nat) (a0 : Int) (r : Int) (w : World) (h : lychref1_Fold.f k a0 = some r) :
    Calls Try.prog 37 #[.int .u32 a0] w fun e w' => e = .returned (.int .u16 r) ∧ Drawn0 w w' := by
  have H : (lychref1_Fold.l0 k a0) = some r := h
  clear h
  have H' := Aside0.mk H
  clear H
  go_enter Try.func37, Try.ntmps37
  go_wp2
  go_loopg [0] k (fun kq v0 w' => ∃ (x0_1 : Int), v0 = .int .u32 x0_1 ∧ Aside0 (lychref1_Fold.l0 kq x0_1 = some r) ∧ Aside0 (kq ≤ k) ∧ Drawn0 w w')
  case atStart => exact ⟨(a0), (by first | rfl | (simp; done) | (simp [*]; done)), H', ⟨Nat.le_refl _⟩, by repeat (first | exact Drawn0.refl _ | apply Drawn0.step)⟩
  case round =>
    clear H'
    obtain ⟨x0_1, rfl, HA, HK1, ⟨m1, rfl⟩⟩ := hrel
    cases gk with
    | zero => exact absurd HA.out (by simp [lychref1_Fold.l0])
    | succ k1 =>
      have H := HA.out
      clear HA
      simp only [lychref1_Fold.l0] at H
      by_cases c2 : (x0_1 / 65536) = 0
      · rw [if_pos c2] at H
        have c2b0 : ((x0_1 / 65536) == 0) = true := beq_iff_eq.mpr c2
        have c2b1 : ((x0_1 / 65536) != 0) = false := bne_eq_false_iff_eq.mpr c2
        clear c2
        obtain rfl := Option.some.inj H
        go_wp2
        go_ret
        exact ⟨by first | rfl | (simp; done) | (simp [*]; done), by repeat (first | exact Drawn0.refl _ | apply Drawn0.step)⟩
      · rw [if_neg c2] at H
        have c2b0 : ((x0_1 / 65536) == 0) = false := beq_eq_false_iff_ne.mpr c2
        have c2b1 : ((x0_1 / 65536) != 0) = true := bne_iff_ne.mpr c2
        have H' := Aside0.mk H
        clear H
        go_wp2
        go_roundg k1
        case measure => have := HK1.out; omega
        case rel => exact ⟨(((x0_1 / 65536) + (Go.bits .and .u32 x0_1 65535)) % 4294967296), (by first | rfl | (simp; done) | (simp [*]; done)), H', ⟨by have := HK1.out; omega⟩, by repeat (first | exact Drawn0.refl _ | apply Drawn0.step)⟩

/-! ### lychref1_Words: function 50 -/
def lychref1_Words.l0 : Nat → List Int → List Int → Int → Option (List Int)
  | 0, _, _, _ => none
  | k + 1, x0, x3, x4 => if x4 < (x0.length : Int) then (if 0 ≤ x4 then (if (wrap64 (x4 + 1)) < (x0.length : Int) then (if 0 ≤ (wrap64 (x4 + 1)) then (if x3.length < 70368744177664 then (lychref1_Words.l0 k x0 (x3 ++ [Go.bits .or .u16 (IntKind.u16.wrap ((IntKind.u16.wrap (rd x0 x4)) * 256)) (IntKind.u16.wrap (rd x0 (wrap64 (x4 + 1))))]) (wrap64 (x4 + 2))) else (none)) else (none)) else (if x3.length < 70368744177664 then (lychref1_Words.l0 k x0 (x3 ++ [IntKind.u16.wrap ((IntKind.u16.wrap (rd x0 x4)) * 256)]) (wrap64 (x4 + 2))) else (none))) else (none)) else (some x3)
def lychref1_Words.f (k : Nat) (l0 : List Int) : Option (List Int) := lychref1_Words.l0 k l0 ([] : List Int) 0
theorem lychref1_Words.mono_l : ∀ k, (∀ y0 y1 y2, LeO (lychref1_Words.l0 k y0 y1 y2) (lychref1_Words.l0 (k + 1) y0 y1 y2))
  | 0 => fun _ _ _ r h => by simp [lychref1_Words.l0] at h
  | k + 1 => by
    have ih0 := lychref1_Words.mono_l k
    · intro y0 y1 y2
      unfold lychref1_Words.l0
      repeat' first
      | (with_reducible exact ih0 _ _ _)
      | (with_reducible exact LeO.refl _)
      | (with_reducible exact LeO.none _)
      | (with_reducible refine LeO.ite ?_ ?_)
      | (with_reducible refine LeO.bind ?_ (fun _ => ?_))
      | exact ih0 _ _ _
      | exact LeO.none _
      | refine LeO.ite ?_ ?_
      | refine LeO.bind ?_ (fun _ => ?_)
theorem lychref1_Words.mono : ∀ a0 k, LeO (lychref1_Words.f k a0) (lychref1_Words.f (k + 1) a0) := by
  intro a0 k
  have ih0 := lychref1_Words.mono_l k
  unfold lychref1_Words.f
  repeat' first
      | (with_reducible exact ih0 _ _ _)
      | (with_reducible exact LeO.refl _)
      | (with_reducible exact LeO.none _)
      | (with_reducible refine LeO.ite ?_ ?_)
      | (with_reducible refine LeO.bind ?_ (fun _ => ?_))
      | exact ih0 _ _ _
      | exact LeO.none _
      | refine LeO.ite ?_ ?_
      | refine LeO.bind ?_ (fun _ => ?_)
set_option maxHeartbeats 8000000 in
set_option maxRecDepth 100000 in
theorem lychref1_Words.calls (k : Nat) (A0 : Option Addr) (c0 : Nat) (l0 : List Int) (r : List Int) (w : World) (hr0 : Kd.C (Kd.int .u8) w A0 l0.length l0) (hc0 : l0.length ≤ c0) (h : lychref1_Words.f k l0 = some r) :
    Calls Try.prog 50 #[.slice A0 l0.length c0] w fun e w' => ∃ v0_ : Value, e = .returned (v0_) ∧ Kd.R (Kd.int .u16) 24 w' w.heap.size (fun _ => True) v0_ r ∧ Below w.heap.size w w' := by
  have HR0 := Aside0.mk hr0
  have HC0 := Aside0.mk hc0
  clear hr0 hc0
  have HB := Aside0.mk (Below.refl w.heap.size w)
  have H : (lychref1_Words.l0 k l0 ([] : List Int) 0) = some r := h
  clear h
  have H' := Aside0.mk H
  clear H
  go_enter Try.func50, Try.ntmps50
  go_wp2
  go_loopg [3, 4] k (fun kq v3 v4 w' => ∃ (x3_1 : List Int) (x4_1 : Int), v4 = .int .i64 x4_1 ∧ Aside0 (lychref1_Words.l0 kq l0 x3_1 x4_1 = some r) ∧ Aside0 (kq ≤ k) ∧ Aside0 (Kd.R (Kd.int .u16) 24 w' w.heap.size (fun _ => True) v3 x3_1) ∧ Aside0 (Below w.heap.size w w'))
  case atStart => exact ⟨(([] : List Int)), (0), (by first | rfl | (simp; done) | (simp [*]; done)), H', ⟨Nat.le_refl _⟩, ⟨by first | exact Kd.R_nil _ _ _ _ _ | exact Kd.N_nil _ _ _ _ _ | exact Kd.V_nil _ _ _ _ _ | exact Kd.Q_nil _ _ _ _ _ | exact Kd.S_nil _ _ _ _ _⟩, ⟨by repeat (first | (with_reducible first | exact HB.out | apply below_alloc | apply pw_below_drewN | apply below_drew1) | exact HB.out)⟩⟩
  case round =>
    clear H'
    obtain ⟨x3_1, x4_1, rfl, HA, HK1, HO_3, HB⟩ := hrel
    cases gk with
    | zero => exact absurd HA.out (by simp [lychref1_Words.l0])
    | succ k1 =>
      have H := HA.out
      clear HA
      simp only [lychref1_Words.l0] at H
      by_cases c2 : x4_1 < (l0.length : Int)
      · rw [if_pos c2] at H
        have c2b0 : decide (x4_1 < (l0.length : Int)) = true := decide_eq_true c2
        clear c2
        by_cases c3 : 0 ≤ x4_1
        · rw [if_pos c3] at H
          have c3b0 : decide (0 ≤ x4_1) = true := decide_eq_true c3
          clear c3
          by_cases c4 : (wrap64 (x4_1 + 1)) < (l0.length : Int)
          · rw [if_pos c4] at H
            have c4b0 : decide ((wrap64 (x4_1 + 1)) < (l0.length : Int)) = true := decide_eq_true c4
            clear c4
            obtain ⟨ji5, hji5⟩ : ∃ j_ : Int, (wrap64 (x4_1 + 1)) = j_ := ⟨_, rfl⟩
            replace H : (if 0 ≤ (ji5) then (if x3_1.length < 70368744177664 then (lychref1_Words.l0 k1 l0 (x3_1 ++ [Go.bits .or .u16 (IntKind.u16.wrap ((IntKind.u16.wrap (rd l0 x4_1)) * 256)) (IntKind.u16.wrap (rd l0 (ji5)))]) (wrap64 (x4_1 + 2))) else (none)) else (none)) = some r := by first | (rw [hji5] at H; exact H) | (simp only [hji5] at H ⊢; exact H)
            (try rw [hji5] at c4b0)
            have hji5w : (IntKind.i64.wrap (x4_1 + 1)) = ji5 := (i64_w _).trans hji5
            by_cases c6 : 0 ≤ (ji5)
            · rw [if_pos c6] at H
              have c6b0 : decide (0 ≤ (ji5)) = true := decide_eq_true c6
              clear c6
              by_cases c7 : x3_1.length < 70368744177664
              · rw [if_pos c7] at H
                have LMc7 := Aside0.mk c7
                clear c7
                obtain ⟨y258, hy258⟩ : ∃ y_ : List Int, y_ = (x3_1 ++ [Go.bits .or .u16 (IntKind.u16.wrap ((IntKind.u16.wrap (rd l0 x4_1)) * 256)) (IntKind.u16.wrap (rd l0 (ji5)))]) := ⟨_, rfl⟩
                replace H : (lychref1_Words.l0 k1 l0 y258 (wrap64 (x4_1 + 2))) = some r := by first | (rw [hy258]; with_reducible exact H) | (have H2_ := (Option.bind_some _ _).symm.trans H; rw [hy258]; with_reducible exact H2_) | (have H2_ := (Option.bind_some _ _).symm.trans H; with_reducible exact H2_) | with_reducible exact H | (rw [hy258]; exact H) | exact H
                have Ny258 := Aside0.mk hy258
                clear hy258
                have H' := Aside0.mk H
                clear H
                have p256 : 0 ≤ (x4_1 : Int) := of_decide_eq_true (by first | (with_reducible assumption) | assumption)
                have q256 : x4_1 < (l0.length : Int) := of_decide_eq_true (by first | (with_reducible assumption) | assumption)
                obtain ⟨ad256, e256, hx256_0⟩ := Kd.at_int HR0.out x4_1 p256 q256
                cases e256
                replace hx256_0 := (HB.out.cell (World.block_lt_of_cell? w _ hx256_0)).trans hx256_0
                replace p256 := eq_true p256
                replace q256 := eq_true q256
                have p257 : 0 ≤ ((ji5) : Int) := of_decide_eq_true (by first | (with_reducible assumption) | assumption)
                have q257 : (ji5) < (l0.length : Int) := of_decide_eq_true (by first | (with_reducible assumption) | assumption)
                obtain ⟨ad257, e257, hx257_0⟩ := Kd.at_int HR0.out (ji5) p257 q257
                obtain rfl : ad256 = ad257 := (by injection e257)
                replace hx257_0 := (HB.out.cell (World.block_lt_of_cell? w _ hx257_0)).trans hx257_0
                replace p257 := eq_true p257
                replace q257 := eq_true q257
                go_wp2_with (first | ((with_reducible refine gate_builtin (b := .append) (xs := #[.tmp 31, .tmp 33]) rfl ?_); at_builtin; refine Kd.R_append (Kd.int .u16) (w0 := w) w.heap.size rfl (.tmp 31) (.tmp 33) 77 24 (.int .u16 0) 2 rfl Try.underlying77 info24 rfl (by decide) (by omega) u3 x3_1 (Go.bits .or .u16 (IntKind.u16.wrap ((IntKind.u16.wrap (rd l0 x4_1)) * 256)) (IntKind.u16.wrap (rd l0 (ji5)))) [.int .u16 (Go.bits .or .u16 (IntKind.u16.wrap ((IntKind.u16.wrap (rd l0 x4_1)) * 256)) (IntKind.u16.wrap (rd l0 (ji5))))] (fun _ => True) (fun _ => False) rfl rfl ?aP (fun _ hk => hk.elim) ?aF ?aO ?aB ?aS ?aL ?_; (case aP => exact rfl); (case aB => exact (by repeat (first | (with_reducible first | exact HB.out | apply below_alloc | apply pw_below_drewN | apply below_drew1) | exact HB.out))); (case aF => exact (fun _ _ => trivial)); (case aO => exact (by (with_reducible repeat (first | apply Kd.R_alloc | apply Kd.R_drewN | apply Kd.R_drew)); exact HO_3.out)); (case aS => exact (below_size (by repeat (first | (with_reducible first | exact HB.out | apply below_alloc | apply pw_below_drewN | apply below_drew1) | exact HB.out)))); (case aL => have := LMc7.out; omega); intro v259 w8 ho hb hg hat; rw [← Ny258.out] at ho; have n0_ := Aside0.mk (hb); have n1_ := Aside0.mk (ho); clear HB; clear HO_3; have HB := n0_; have HO260 := n1_; clear n0_ n1_; clear ho hb hg hat))
                go_roundg k1
                case measure => have := HK1.out; omega
                case rel => exact ⟨(y258), (wrap64 (x4_1 + 2)), (by first | rfl | (simp; done) | (simp [*]; done)), H', ⟨by have := HK1.out; omega⟩, ⟨by (with_reducible repeat (first | apply Kd.R_alloc | apply Kd.R_drewN | apply Kd.R_drew)); exact HO260.out⟩, ⟨by repeat (first | (with_reducible first | exact HB.out | apply below_alloc | apply pw_below_drewN | apply below_drew1) | exact HB.out)⟩⟩
              · rw [if_neg c7] at H
                exact absurd H (by simp)
            · rw [if_neg c6] at H
              exact absurd H (by simp)
          · rw [if_neg c4] at H
            have c4b0 : decide ((wrap64 (x4_1 + 1)) < (l0.length : Int)) = false := decide_eq_false c4
            clear c4
            by_cases c9 : x3_1.length < 70368744177664
            · rw [if_pos c9] at H
              have LMc9 := Aside0.mk c9
              clear c9
              obtain ⟨y261, hy261⟩ : ∃ y_ : List Int, y_ = (x3_1 ++ [IntKind.u16.wrap ((IntKind.u16.wrap (rd l0 x4_1)) * 256)]) := ⟨_, rfl⟩
              replace H : (lychref1_Words.l0 k1 l0 y261 (wrap64 (x4_1 + 2))) = some r := by first | (rw [hy261]; with_reducible exact H) | (have H2_ := (Option.bind_some _ _).symm.trans H; rw [hy261]; with_reducible exact H2_) | (have H2_ := (Option.bind_some _ _).symm.trans H; with_reducible exact H2_) | with_reducible exact H | (rw [hy261]; exact H) | exact H
              have Ny261 := Aside0.mk hy261
              clear hy261
              have H' := Aside0.mk H
              clear H
              have p256 : 0 ≤ (x4_1 : Int) := of_decide_eq_true (by first | (with_reducible assumption) | assumption)
              have q256 : x4_1 < (l0.length : Int) := of_decide_eq_true (by first | (with_reducible assumption) | assumption)
              obtain ⟨ad256, e256, hx256_0⟩ := Kd.at_int HR0.out x4_1 p256 q256
              cases e256
              replace hx256_0 := (HB.out.cell (World.block_lt_of_cell? w _ hx256_0)).trans hx256_0
              replace p256 := eq_true p256
              replace q256 := eq_true q256
              go_wp2_with (first | ((with_reducible refine gate_builtin (b := .append) (xs := #[.tmp 31, .tmp 33]) rfl ?_); at_builtin; refine Kd.R_append (Kd.int .u16) (w0 := w) w.heap.size rfl (.tmp 31) (.tmp 33) 77 24 (.int .u16 0) 2 rfl Try.underlying77 info24 rfl (by decide) (by omega) u3 x3_1 (IntKind.u16.wrap ((IntKind.u16.wrap (rd l0 x4_1)) * 256)) [.int .u16 (IntKind.u16.wrap ((IntKind.u16.wrap (rd l0 x4_1)) * 256))] (fun _ => True) (fun _ => False) rfl rfl ?aP (fun _ hk => hk.elim) ?aF ?aO ?aB ?aS ?aL ?_; (case aP => exact rfl); (case aB => exact (by repeat (first | (with_reducible first | exact HB.out | apply below_alloc | apply pw_below_drewN | apply below_drew1) | exact HB.out))); (case aF => exact (fun _ _ => trivial)); (case aO => exact (by (with_reducible repeat (first | apply Kd.R_alloc | apply Kd.R_drewN | apply Kd.R_drew)); exact HO_3.out)); (case aS => exact (below_size (by repeat (first | (with_reducible first | exact HB.out | apply below_alloc | apply pw_below_drewN | apply below_drew1) | exact HB.out)))); (case aL => have := LMc9.out; omega); intro v262 w10 ho hb hg hat; rw [← Ny261.out] at ho; have n0_ := Aside0.mk (hb); have n1_ := Aside0.mk (ho); clear HB; clear HO_3; have HB := n0_; have HO263 := n1_; clear n0_ n1_; clear ho hb hg hat))
              go_roundg k1
              case measure => have := HK1.out; omega
              case rel => exact ⟨(y261), (wrap64 (x4_1 + 2)), (by first | rfl | (simp; done) | (simp [*]; done)), H', ⟨by have := HK1.out; omega⟩, ⟨by (with_reducible repeat (first | apply Kd.R_alloc | apply Kd.R_drewN | apply Kd.R_drew)); exact HO263.out⟩, ⟨by repeat (first | (with_reducible first | exact HB.out | apply below_alloc | apply pw_below_drewN | apply below_drew1) | exact HB.out)⟩⟩
            · rw [if_neg c9] at H
              exact absurd H (by simp)
        · rw [if_neg c3] at H
          exact absurd H (by simp)
      · rw [if_neg c2] at H
        have c2b0 : decide (x4_1 < (l0.length : Int)) = false := decide_eq_false c2
        clear c2
        obtain rfl := Option.some.inj H
        go_wp2
        go_ret
        exact ⟨_, by first | rfl | (simp [errW_none, errW_some] <;> rfl) | (simp [*, errW_none, errW_some] <;> rfl), by (with_reducible repeat (first | apply Kd.R_alloc | apply Kd.R_drewN | apply Kd.R_drew)); exact HO_3.out, by repeat (first | (with_reducible first | exact HB.out | apply below_alloc | apply pw_below_drewN | apply below_drew1) | exact HB.out)⟩

/-! ### lychref1_Add: function 38 -/
def lychref1_Add.l0 : Nat → Int → List Int → Int → Option (Int)
  | 0, _, _, _ => none
  | k + 1, x5, x6, x7 => if x7 < (x6.length : Int) then (if 0 ≤ x7 then (if (IntKind.u64.wrap (x5 + (IntKind.u64.wrap (rd x6 x7)))) > 4294967295 then (lychref1_Add.l0 k (IntKind.u64.wrap ((IntKind.u64.wrap ((IntKind.u64.wrap (x5 + (IntKind.u64.wrap (rd x6 x7)))) - 4294967296)) + 1)) x6 (wrap64 (x7 + 1))) else (lychref1_Add.l0 k (IntKind.u64.wrap (x5 + (IntKind.u64.wrap (rd x6 x7)))) x6 (wrap64 (x7 + 1)))) else (none)) else (some ((x5) % 4294967296))
def lychref1_Add.f (k : Nat) (a0 : Int) (l1 : List Int) : Option (Int) := (lychref1_Words.f k l1).bind fun t264 => (lychref1_Add.l0 k (IntKind.u64.wrap (a0)) t264 0)
theorem lychref1_Add.mono_l : ∀ k, (∀ y0 y1 y2, LeO (lychref1_Add.l0 k y0 y1 y2) (lychref1_Add.l0 (k + 1) y0 y1 y2))
  | 0 => fun _ _ _ r h => by simp [lychref1_Add.l0] at h
  | k + 1 => by
    have ih0 := lychref1_Add.mono_l k
    · intro y0 y1 y2
      unfold lychref1_Add.l0
      repeat' first
      | (with_reducible exact ih0 _ _ _)
      | (with_reducible exact lychref1_Words.mono _ _)
      | (with_reducible exact LeO.refl _)
      | (with_reducible exact LeO.none _)
      | (with_reducible refine LeO.ite ?_ ?_)
      | (with_reducible refine LeO.bind ?_ (fun _ => ?_))
      | exact ih0 _ _ _
      | exact lychref1_Words.mono _ _
      | exact LeO.none _
      | refine LeO.ite ?_ ?_
      | refine LeO.bind ?_ (fun _ => ?_)
theorem lychref1_Add.mono : ∀ a0 a1 k, LeO (lychref1_Add.f k a0 a1) (lychref1_Add.f (k + 1) a0 a1) := by
  intro a0 a1 k
  have ih0 := lychref1_Add.mono_l k
  unfold lychref1_Add.f
  repeat' first
      | (with_reducible exact ih0 _ _ _)
      | (with_reducible exact lychref1_Words.mono _ _)
      | (with_reducible exact LeO.refl _)
      | (with_reducible exact LeO.none _)
      | (with_reducible refine LeO.ite ?_ ?_)
      | (with_reducible refine LeO.bind ?_ (fun _ => ?_))
      | exact ih0 _ _ _
      | exact lychref1_Words.mono _ _
      | exact LeO.none _
      | refine LeO.ite ?_ ?_
      | refine LeO.bind ?_ (fun _ => ?_)
set_option maxHeartbeats 8000000 in
set_option maxRecDepth 100000 in
theorem lychref1_Add.calls (k : Nat) (a0 : Int) (A1 : Option Addr) (c1 : Nat) (l1 : List Int) (r : Int) (w : World) (hr1 : Kd.C (Kd.int .u8) w A1 l1.length l1) (hc1 : l1.length ≤ c1) (h : lychref1_Add.f k a0 l1 = some r) :
    Calls Try.prog 38 #[.int .u32 a0, .slice A1 l1.length c1] w fun e w' => e = .returned (.int .u32 r) ∧ Below w.heap.size w w' := by
  have HR1 := Aside0.mk hr1
  have HC1 := Aside0.mk hc1
  clear hr1 hc1
  have HB := Aside0.mk (Below.refl w.heap.size w)
  have H : ((lychref1_Words.f k l1).bind fun t264 => (lychref1_Add.l0 k (IntKind.u64.wrap (a0)) t264 0)) = some r := h
  clear h
  replace H := Option.bind_eq_some_iff.mp H
  obtain ⟨t264, A30, H⟩ := H
  replace H : (lychref1_Add.l0 k (IntKind.u64.wrap (a0)) t264 0) = some r := H
  have A3 := Aside0.mk A30
  clear A30
  have H' := Aside0.mk H
  clear H
  go_enter Try.func38, Try.ntmps38
  go_wp2_with (first | ((with_reducible refine gate_callee (f := 50) rfl ?_); refine goesL_ (some 11) rfl rfl Try.func50 (by kernel_rfl) rfl #[.slice A1 l1.length c1] rfl (by (try simp only [List.map_toArray, List.map_cons, List.map_nil]); first | done | rfl | (simp only [List.length_drop, List.length_take]; rfl) | (go_simp; done) | (simp [Act.eval, IntKind.signed]; done) | (simp [Act.eval, IntKind.signed]; rfl)) ?_; (with_reducible refine (lychref1_Words.calls k _ _ l1 t264 _ ?side1 ?side2 A3.out).mono ?_); (case side1 => repeat (first | exact HR1.out | (with_reducible refine Kd.C_alloc ?_ _) | (with_reducible refine Kd.C_drewN ?_ _) | (with_reducible refine Kd.C_drew ?_))); (case side2 => exact HC1.out); rintro e w4 ⟨v265, rfl, ho0, hb⟩; refine ⟨_, rfl, ?_⟩; have n0_ := Aside0.mk (Kd.R_lower ho0 (below_size (by repeat (first | (with_reducible first | exact HB.out | apply below_alloc | apply pw_below_drewN | apply below_drew1) | exact HB.out)))); have n1_ := Aside0.mk (below_step (by repeat (first | (with_reducible first | exact HB.out | apply below_alloc | apply pw_below_drewN | apply below_drew1) | exact HB.out)) hb); clear HB; have HO266 := n0_; have HB := n1_; clear n0_ n1_; (try clear hb); (try clear hb2); (try clear hk); (try clear hi); (try clear ho0)))
  go_loopg [5, 7] k (fun kq v5 v7 w' => ∃ (x5_1 : Int) (x7_1 : Int), v5 = .int .u64 x5_1 ∧ v7 = .int .i64 x7_1 ∧ Aside0 (lychref1_Add.l0 kq x5_1 t264 x7_1 = some r) ∧ Aside0 (kq ≤ k) ∧ Aside0 (Kd.R (Kd.int .u16) 24 w' w.heap.size (fun _ => True) v265 t264) ∧ Aside0 (Below w.heap.size w w'))
  case atStart => exact ⟨(IntKind.u64.wrap (a0)), (0), (by first | rfl | (simp; done) | (simp [*]; done)), (by first | rfl | (simp; done) | (simp [*]; done)), H', ⟨Nat.le_refl _⟩, ⟨by (with_reducible repeat (first | apply Kd.R_alloc | apply Kd.R_drewN | apply Kd.R_drew)); exact HO266.out⟩, ⟨by repeat (first | (with_reducible first | exact HB.out | apply below_alloc | apply pw_below_drewN | apply below_drew1) | exact HB.out)⟩⟩
  case round =>
    clear H'
    try clear c1
    try clear p2
    try clear c3
    obtain ⟨x5_1, x7_1, rfl, rfl, HA, HK1, HO_6, HB⟩ := hrel
    cases gk with
    | zero => exact absurd HA.out (by simp [lychref1_Add.l0])
    | succ k1 =>
      have H := HA.out
      clear HA
      simp only [lychref1_Add.l0] at H
      by_cases c5 : x7_1 < (t264.length : Int)
      · rw [if_pos c5] at H
        have c5b0 : decide (x7_1 < (t264.length : Int)) = true := decide_eq_true c5
        clear c5
        by_cases c6 : 0 ≤ x7_1
        · rw [if_pos c6] at H
          have c6b0 : decide (0 ≤ x7_1) = true := decide_eq_true c6
          clear c6
          by_cases c7 : (IntKind.u64.wrap (x5_1 + (IntKind.u64.wrap (rd t264 x7_1)))) > 4294967295
          · rw [if_pos c7] at H
            have c7b0 : decide (4294967295 < (IntKind.u64.wrap (x5_1 + (IntKind.u64.wrap (rd t264 x7_1))))) = true := decide_eq_true c7
            clear c7
            have H' := Aside0.mk H
            clear H
            obtain ⟨Ao8, co8, eo8⟩ := Kd.R_slice HO_6.out
            subst eo8
            have p267 : 0 ≤ (x7_1 : Int) := of_decide_eq_true (by first | (with_reducible assumption) | assumption)
            have q267 : x7_1 < (t264.length : Int) := of_decide_eq_true (by first | (with_reducible assumption) | assumption)
            obtain ⟨ad267, e267, hx267_0⟩ := Kd.at_int (Kd.R_reads' HO_6.out).2.2 x7_1 p267 q267
            cases e267
            replace p267 := eq_true p267
            replace q267 := eq_true q267
            go_wp2
            go_roundg k1
            case measure => have := HK1.out; omega
            case rel => exact ⟨(IntKind.u64.wrap ((IntKind.u64.wrap ((IntKind.u64.wrap (x5_1 + (IntKind.u64.wrap (rd t264 x7_1)))) - 4294967296)) + 1)), (wrap64 (x7_1 + 1)), (by first | rfl | (simp; done) | (simp [*]; done)), (by first | rfl | (simp; done) | (simp [*]; done)), H', ⟨by have := HK1.out; omega⟩, ⟨by (with_reducible repeat (first | apply Kd.R_alloc | apply Kd.R_drewN | apply Kd.R_drew)); exact HO_6.out⟩, ⟨by repeat (first | (with_reducible first | exact HB.out | apply below_alloc | apply pw_below_drewN | apply below_drew1) | exact HB.out)⟩⟩
          · rw [if_neg c7] at H
            have c7b0 : decide (4294967295 < (IntKind.u64.wrap (x5_1 + (IntKind.u64.wrap (rd t264 x7_1))))) = false := decide_eq_false c7
            clear c7
            have H' := Aside0.mk H
            clear H
            obtain ⟨Ao9, co9, eo9⟩ := Kd.R_slice HO_6.out
            subst eo9
            have p267 : 0 ≤ (x7_1 : Int) := of_decide_eq_true (by first | (with_reducible assumption) | assumption)
            have q267 : x7_1 < (t264.length : Int) := of_decide_eq_true (by first | (with_reducible assumption) | assumption)
            obtain ⟨ad267, e267, hx267_0⟩ := Kd.at_int (Kd.R_reads' HO_6.out).2.2 x7_1 p267 q267
            cases e267
            replace p267 := eq_true p267
            replace q267 := eq_true q267
            go_wp2
            go_roundg k1
            case measure => have := HK1.out; omega
            case rel => exact ⟨(IntKind.u64.wrap (x5_1 + (IntKind.u64.wrap (rd t264 x7_1)))), (wrap64 (x7_1 + 1)), (by first | rfl | (simp; done) | (simp [*]; done)), (by first | rfl | (simp; done) | (simp [*]; done)), H', ⟨by have := HK1.out; omega⟩, ⟨by (with_reducible repeat (first | apply Kd.R_alloc | apply Kd.R_drewN | apply Kd.R_drew)); exact HO_6.out⟩, ⟨by repeat (first | (with_reducible first | exact HB.out | apply below_alloc | apply pw_below_drewN | apply below_drew1) | exact HB.out)⟩⟩
        · rw [if_neg c6] at H
          exact absurd H (by simp)
      · rw [if_neg c5] at H
        have c5b0 : decide (x7_1 < (t264.length : Int)) = false := decide_eq_false c5
        clear c5
        obtain rfl := Option.some.inj H
        obtain ⟨Ao10, co10, eo10⟩ := Kd.R_slice HO_6.out
        subst eo10
        go_wp2
        go_ret
        exact ⟨by first | rfl | (simp [errW_none, errW_some] <;> rfl) | (simp [*, errW_none, errW_some] <;> rfl), by repeat (first | (with_reducible first | exact HB.out | apply below_alloc | apply pw_below_drewN | apply below_drew1) | exact HB.out)⟩

/-! ### lychref1_Pseudo: function 39 -/
def lychref1_Pseudo.f (k : Nat) (a0 : Int) (a1 : Int) (a2 : Int) (a3 : Int) : Option (Int) := (lychref1_Fold.f k (((a0 / 65536) + (Go.bits .and .u32 a0 65535) + (a1 / 65536) + (Go.bits .and .u32 a1 65535) + (a2) + (Go.bits .and .u64 (IntKind.u64.wrap (a3)) 65535)) % 4294967296)).bind fun t268 => (some ((t268) % 4294967296))
theorem lychref1_Pseudo.mono : ∀ a0 a1 a2 a3 k, LeO (lychref1_Pseudo.f k a0 a1 a2 a3) (lychref1_Pseudo.f (k + 1) a0 a1 a2 a3) := by
  intro a0 a1 a2 a3 k
  unfold lychref1_Pseudo.f
  repeat' first
      | (with_reducible exact lychref1_Fold.mono _ _)
      | (with_reducible exact LeO.refl _)
      | (with_reducible exact LeO.none _)
      | (with_reducible refine LeO.ite ?_ ?_)
      | (with_reducible refine LeO.bind ?_ (fun _ => ?_))
      | exact lychref1_Fold.mono _ _
      | exact LeO.none _
      | refine LeO.ite ?_ ?_
      | refine LeO.bind ?_ (fun _ => ?_)
set_option maxHeartbeats 8000000 in
set_option maxRecDepth 100000 in
theorem lychref1_Pseudo.calls (k : Nat) (a0 : Int) (a1 : Int) (a2 : Int) (a3 : Int) (r : Int) (w : World) (h : lychref1_Pseudo.f k a0 a1 a2 a3 = some r) :
    Calls Try.prog 39 #[.int .u32 a0, .int .u32 a1, .int .u8 a2, .int .i64 a3] w fun e w' => e = .returned (.int .u32 r) ∧ Drawn0 w w' := by
  have H : ((lychref1_Fold.f k (((a0 / 65536) + (Go.bits .and .u32 a0 65535) + (a1 / 65536) + (Go.bits .and .u32 a1 65535) + (a2) + (Go.bits .and .u64 (IntKind.u64.wrap (a3)) 65535)) % 4294967296)).bind fun t268 => (some ((t268) % 4294967296))) = some r := h
  clear h
  replace H := Option.bind_eq_some_iff.mp H
  obtain ⟨t268, A50, H⟩ := H
  replace H : (some ((t268) % 4294967296)) = some r := H
  have A5 := Aside0.mk A50
  clear A50
  obtain rfl := Option.some.inj H
  go_enter Try.func39, Try.ntmps39
  go_wp2_with (first | ((with_reducible refine gate_callee (f := 37) rfl ?_); refine goesL_ (some 30) rfl rfl Try.func37 (by kernel_rfl) rfl #[.int .u32 (((a0 / 65536) + (Go.bits .and .u32 a0 65535) + (a1 / 65536) + (Go.bits .and .u32 a1 65535) + (a2) + (Go.bits .and .u64 (IntKind.u64.wrap (a3)) 65535)) % 4294967296)] rfl (by (try simp only [List.map_toArray, List.map_cons, List.map_nil]); first | done | rfl | (simp only [List.length_drop, List.length_take]; rfl) | (go_simp; done) | (simp [Act.eval, IntKind.signed]; done) | (simp [Act.eval, IntKind.signed]; rfl)) ?_; (with_reducible refine (lychref1_Fold.calls k (((a0 / 65536) + (Go.bits .and .u32 a0 65535) + (a1 / 65536) + (Go.bits .and .u32 a1 65535) + (a2) + (Go.bits .and .u64 (IntKind.u64.wrap (a3)) 65535)) % 4294967296) t268 _ A5.out).mono ?_); rintro e w' ⟨rfl, ⟨nd, rfl⟩⟩; refine ⟨_, rfl, ?_⟩))
  go_ret
  exact ⟨by first | rfl | (simp; done) | (simp [*]; done), by repeat (first | exact Drawn0.refl _ | apply Drawn0.step)⟩

/-! ### lychref1_UdpSum: function 21 -/
def lychref1_UdpSum.f (k : Nat) (a0 : Int) (a1 : Int) (a2_0 : Int) (a2_1 : Int) (a2_2 : Int) (l2_3 : List Int) : Option (Int) := (lychref1_UdpBytes.f a2_0 a2_1 0 l2_3).bind fun bt270 => (if bt270.2 = 0 then ((lychref1_Pseudo.f k a0 a1 17 (bt270.1.length : Int)).bind fun t274 => ((lychref1_Add.f k t274 bt270.1).bind fun t275 => ((lychref1_Fold.f k t275).bind fun t276 => (if (Go.bits .xor .u16 IntKind.u16.max t276) = 0 then (some 65535) else (some (Go.bits .xor .u16 IntKind.u16.max t276)))))) else (some 0))
theorem lychref1_UdpSum.mono : ∀ a0 a1 a2 a3 a4 a5 k, LeO (lychref1_UdpSum.f k a0 a1 a2 a3 a4 a5) (lychref1_UdpSum.f (k + 1) a0 a1 a2 a3 a4 a5) := by
  intro a0 a1 a2 a3 a4 a5 k
  unfold lychref1_UdpSum.f
  repeat' first
      | (with_reducible exact lychref1_Add.mono _ _ _)
      | (with_reducible exact lychref1_Fold.mono _ _)
      | (with_reducible exact lychref1_Pseudo.mono _ _ _ _ _)
      | (with_reducible exact LeO.refl _)
      | (with_reducible exact LeO.none _)
      | (with_reducible refine LeO.ite ?_ ?_)
      | (with_reducible refine LeO.bind ?_ (fun _ => ?_))
      | exact lychref1_Add.mono _ _ _
      | exact lychref1_Fold.mono _ _
      | exact lychref1_Pseudo.mono _ _ _ _ _
      | exact LeO.none _
      | refine LeO.ite ?_ ?_
      | refine LeO.bind ?_ (fun _ => ?_)
set_option maxHeartbeats 8000000 in
set_option maxRecDepth 100000 in
theorem lychref1_UdpSum.calls (k : Nat) (a0 : Int) (a1 : Int) (a2_0 : Int) (a2_1 : Int) (a2_2 : Int) (A2_3 : Option Addr) (c2_3 : Nat) (l2_3 : List Int) (r : Int) (w : World) (hr2_3 : Kd.C (Kd.int .u8) w A2_3 l2_3.length l2_3) (hc2_3 : l2_3.length ≤ c2_3) (h : lychref1_UdpSum.f k a0 a1 a2_0 a2_1 a2_2 l2_3 = some r) :
    Calls Try.prog 21 #[.int .u32 a0, .int .u32 a1, .agg #[.int .u16 a2_0, .int .u16 a2_1, .int .u16 a2_2, .slice A2_3 l2_3.length c2_3]] w fun e w' => e = .returned (.int .u16 r) ∧ Below w.heap.size w w' := by
  have hu26 := Try.underlying26
  have hsg_u16 : IntKind.u16.signed = false := rfl
  have HR2_3 := Aside0.mk hr2_3
  have HC2_3 := Aside0.mk hc2_3
  clear hr2_3 hc2_3
  have HB := Aside0.mk (Below.refl w.heap.size w)
  have H : ((lychref1_UdpBytes.f a2_0 a2_1 0 l2_3).bind fun bt270 => (if bt270.2 = 0 then ((lychref1_Pseudo.f k a0 a1 17 (bt270.1.length : Int)).bind fun t274 => ((lychref1_Add.f k t274 bt270.1).bind fun t275 => ((lychref1_Fold.f k t275).bind fun t276 => (if (Go.bits .xor .u16 IntKind.u16.max t276) = 0 then (some 65535) else (some (Go.bits .xor .u16 IntKind.u16.max t276)))))) else (some 0))) = some r := h
  clear h
  replace H := Option.bind_eq_some_iff.mp H
  obtain ⟨⟨t270, t273⟩, A40, H⟩ := H
  replace H : (if t273 = 0 then ((lychref1_Pseudo.f k a0 a1 17 (t270.length : Int)).bind fun t274 => ((lychref1_Add.f k t274 t270).bind fun t275 => ((lychref1_Fold.f k t275).bind fun t276 => (if (Go.bits .xor .u16 IntKind.u16.max t276) = 0 then (some 65535) else (some (Go.bits .xor .u16 IntKind.u16.max t276)))))) else (some 0)) = some r := H
  have A4 := Aside0.mk A40
  clear A40
  by_cases c5 : t273 = 0
  · rw [if_pos c5] at H
    have c5b0 : (t273 == 0) = true := beq_iff_eq.mpr c5
    have c5b1 : (t273 != 0) = false := bne_eq_false_iff_eq.mpr c5
    clear c5
    replace H := Option.bind_eq_some_iff.mp H
    obtain ⟨t274, A60, H⟩ := H
    replace H : ((lychref1_Add.f k t274 t270).bind fun t275 => ((lychref1_Fold.f k t275).bind fun t276 => (if (Go.bits .xor .u16 IntKind.u16.max t276) = 0 then (some 65535) else (some (Go.bits .xor .u16 IntKind.u16.max t276))))) = some r := H
    have A6 := Aside0.mk A60
    clear A60
    replace H := Option.bind_eq_some_iff.mp H
    obtain ⟨t275, A70, H⟩ := H
    replace H : ((lychref1_Fold.f k t275).bind fun t276 => (if (Go.bits .xor .u16 IntKind.u16.max t276) = 0 then (some 65535) else (some (Go.bits .xor .u16 IntKind.u16.max t276)))) = some r := H
    have A7 := Aside0.mk A70
    clear A70
    replace H := Option.bind_eq_some_iff.mp H
    obtain ⟨t276, A80, H⟩ := H
    replace H : (if (Go.bits .xor .u16 IntKind.u16.max t276) = 0 then (some 65535) else (some (Go.bits .xor .u16 IntKind.u16.max t276))) = some r := H
    have A8 := Aside0.mk A80
    clear A80
    by_cases c9 : (Go.bits .xor .u16 IntKind.u16.max t276) = 0
    · rw [if_pos c9] at H
      have c9b0 : ((Go.bits .xor .u16 IntKind.u16.max t276) == 0) = true := beq_iff_eq.mpr c9
      have c9b1 : ((Go.bits .xor .u16 IntKind.u16.max t276) != 0) = false := bne_eq_false_iff_eq.mpr c9
      clear c9
      obtain rfl := Option.some.inj H
      go_enter Try.func21, Try.ntmps21
      go_wp2_with (first | ((with_reducible refine gate_dst (N := 5) rfl ?_); refine box_event ?hg (N := 5) ?hd (cs := #[.int .u16 a2_0, .int .u16 a2_1, .int .u16 a2_2, .slice A2_3 l2_3.length c2_3]) (t := 26) ?hr ?_; (case hd => rfl); (case hg => rfl); (case hr => first | (go_simp; done) | (go_simp; rfl)); intro gb269 hg w10 hbox hb; have n0_ := Aside0.mk (below_step (by repeat (first | (with_reducible first | exact HB.out | apply below_alloc | apply pw_below_drewN | apply below_drew1) | exact HB.out)) hb); have n1_ := Aside0.mk (hbox); have n2_ := Aside0.mk ((by rw [hg]; exact (below_size (by repeat (first | (with_reducible first | exact HB.out | apply below_alloc | apply pw_below_drewN | apply below_drew1) | exact HB.out))) : w.heap.size ≤ gb269)); have n3_ := Aside0.mk ((by rw [hg]; exact (below_size (by repeat (first | (with_reducible first | exact HB.out | apply below_alloc | apply pw_below_drewN | apply below_drew1) | exact HB.out))) : w.heap.size ≤ gb269)); clear HB; have HB := n0_; have BK269 := n1_; have GW269 := n2_; have GE269 := n3_; clear n0_ n1_ n2_ n3_; clear hb hbox hg; have hcz11_0 : w10.cell? ⟨gb269, 0, none⟩ = some (.int .u16 a2_0) := (blk_cell BK269.out 0).trans rfl; have hcz11_1 : w10.cell? ⟨gb269, 1, none⟩ = some (.int .u16 a2_1) := (blk_cell BK269.out 1).trans rfl; have hcz11_2 : w10.cell? ⟨gb269, 2, none⟩ = some (.int .u16 a2_2) := (blk_cell BK269.out 2).trans rfl; have hcz11_3 : w10.cell? ⟨gb269, 3, none⟩ = some (.slice A2_3 l2_3.length c2_3) := (blk_cell BK269.out 3).trans rfl; have hfz11_0 := blk_frozen BK269.out 0; have hfz11_1 := blk_frozen BK269.out 1; have hfz11_2 := blk_frozen BK269.out 2; have hfz11_3 := blk_frozen BK269.out 3) | ((with_reducible refine gate_callee (f := 18) rfl ?_); refine goesL_ (some 13) rfl rfl Try.func18 (by kernel_rfl) rfl #[.agg #[.int .u16 a2_0, .int .u16 a2_1, .int .u16 0, .slice A2_3 l2_3.length c2_3]] rfl (by (try simp only [List.map_toArray, List.map_cons, List.map_nil]); first | done | rfl | (simp only [List.length_drop, List.length_take]; rfl) | (go_simp; done) | (simp [Act.eval, IntKind.signed]; done) | (simp [Act.eval, IntKind.signed]; rfl)) ?_; (with_reducible refine (lychref1_UdpBytes.calls a2_0 a2_1 0 _ _ l2_3 t270 t273 _ ?side1 ?side2 A4.out).mono ?_); (case side1 => exact Kd.C_below HR2_3.out (by repeat (first | (with_reducible first | exact HB.out | apply below_alloc | apply pw_below_drewN | apply below_drew1 | refine below_set ?_ GE269.out) | exact HB.out))); (case side2 => exact HC2_3.out); rintro e w12 ⟨v271, rfl, ho0, hb⟩; refine ⟨_, rfl, ?_⟩; have n0_ := Aside0.mk (Kd.R_lower ho0 (below_size (by repeat (first | (with_reducible first | exact HB.out | apply below_alloc | apply pw_below_drewN | apply below_drew1 | refine below_set ?_ GE269.out) | exact HB.out)))); have n1_ := Aside0.mk (blk_below (g := gb269) (o := .cells #[.int .u16 a2_0, .int .u16 a2_1, .int .u16 0, .slice A2_3 l2_3.length c2_3] 26 (0, 0)) (by (with_reducible repeat (first | refine blk_drewN ?_ _ | refine blk_drew ?_ | refine blk_alloc ?_ _)); refine blk_put (cs := #[.int .u16 a2_0, .int .u16 a2_1, .int .u16 a2_2, .slice A2_3 l2_3.length c2_3]) ?_ 2 _ rfl; (with_reducible repeat (first | refine blk_drewN ?_ _ | refine blk_drew ?_ | refine blk_alloc ?_ _)); exact BK269.out) hb); have n2_ := Aside0.mk (below_step (by repeat (first | (with_reducible first | exact HB.out | apply below_alloc | apply pw_below_drewN | apply below_drew1 | refine below_set ?_ GE269.out) | exact HB.out)) hb); clear BK269; clear HB; have HO272 := n0_; have BK269 := n1_; have HB := n2_; clear n0_ n1_ n2_; (try clear hb); (try clear hb2); (try clear hk); (try clear hi); (try clear ho0); obtain ⟨Ao13, co13, eo13⟩ := Kd.R_slice HO272.out; subst eo13) | ((with_reducible refine gate_callee (f := 39) rfl ?_); refine goesL_ (some 22) rfl rfl Try.func39 (by kernel_rfl) rfl #[.int .u32 a0, .int .u32 a1, .int .u8 17, .int .i64 (t270.length : Int)] rfl (by (try simp only [List.map_toArray, List.map_cons, List.map_nil]); first | done | rfl | (simp only [List.length_drop, List.length_take]; rfl) | (go_simp; done) | (simp [Act.eval, IntKind.signed]; done) | (simp [Act.eval, IntKind.signed]; rfl)) ?_; (with_reducible refine (lychref1_Pseudo.calls k a0 a1 17 (t270.length : Int) t274 _ A6.out).mono ?_); rintro e w' ⟨rfl, ⟨nd, rfl⟩⟩; refine ⟨_, rfl, ?_⟩) | ((with_reducible refine gate_callee (f := 38) rfl ?_); refine goesL_ (some 24) rfl rfl Try.func38 (by kernel_rfl) rfl #[.int .u32 t274, .slice Ao13 t270.length co13] rfl (by (try simp only [List.map_toArray, List.map_cons, List.map_nil]); first | done | rfl | (simp only [List.length_drop, List.length_take]; rfl) | (go_simp; done) | (simp [Act.eval, IntKind.signed]; done) | (simp [Act.eval, IntKind.signed]; rfl)) ?_; (with_reducible refine (lychref1_Add.calls k t274 _ _ t270 t275 _ ?side1 ?side2 A7.out).mono ?_); (case side1 => repeat (first | exact (Kd.R_reads' HO272.out).2.2 | (with_reducible refine Kd.C_alloc ?_ _) | (with_reducible refine Kd.C_drewN ?_ _) | (with_reducible refine Kd.C_drew ?_))); (case side2 => exact (Kd.R_reads' HO272.out).2.1); rintro e w14 ⟨rfl, hb⟩; refine ⟨_, rfl, ?_⟩; have n0_ := Aside0.mk (Kd.R_below (by (with_reducible repeat (first | apply Kd.R_alloc | apply Kd.R_drewN | apply Kd.R_drew)); exact HO272.out) hb); have n1_ := Aside0.mk (blk_below (g := gb269) (o := .cells #[.int .u16 a2_0, .int .u16 a2_1, .int .u16 0, .slice A2_3 l2_3.length c2_3] 26 (0, 0)) (by (with_reducible repeat (first | refine blk_drewN ?_ _ | refine blk_drew ?_ | refine blk_alloc ?_ _)); exact BK269.out) hb); have n2_ := Aside0.mk (below_step (by repeat (first | (with_reducible first | exact HB.out | apply below_alloc | apply pw_below_drewN | apply below_drew1 | refine below_set ?_ GE269.out) | exact HB.out)) hb); clear HO272; clear BK269; clear HB; have HO272 := n0_; have BK269 := n1_; have HB := n2_; clear n0_ n1_ n2_; (try clear hb); (try clear hb2); (try clear hk); (try clear hi)) | ((with_reducible refine gate_callee (f := 37) rfl ?_); refine goesL_ (some 25) rfl rfl Try.func37 (by kernel_rfl) rfl #[.int .u32 t275] rfl (by (try simp only [List.map_toArray, List.map_cons, List.map_nil]); first | done | rfl | (simp only [List.length_drop, List.length_take]; rfl) | (go_simp; done) | (simp [Act.eval, IntKind.signed]; done) | (simp [Act.eval, IntKind.signed]; rfl)) ?_; (with_reducible refine (lychref1_Fold.calls k t275 t276 _ A8.out).mono ?_); rintro e w' ⟨rfl, ⟨nd, rfl⟩⟩; refine ⟨_, rfl, ?_⟩))
      go_ret
      exact ⟨by first | rfl | (simp [errW_none, errW_some] <;> rfl) | (simp [*, errW_none, errW_some] <;> rfl), by repeat (first | (with_reducible first | exact HB.out | apply below_alloc | apply pw_below_drewN | apply below_drew1 | refine below_set ?_ GE269.out) | exact HB.out)⟩
    · rw [if_neg c9] at H
      have c9b0 : ((Go.bits .xor .u16 IntKind.u16.max t276) == 0) = false := beq_eq_false_iff_ne.mpr c9
      have c9b1 : ((Go.bits .xor .u16 IntKind.u16.max t276) != 0) = true := bne_iff_ne.mpr c9
      obtain rfl := Option.some.inj H
      go_enter Try.func21, Try.ntmps21
      go_wp2_with (first | ((with_reducible refine gate_dst (N := 5) rfl ?_); refine box_event ?hg (N := 5) ?hd (cs := #[.int .u16 a2_0, .int .u16 a2_1, .int .u16 a2_2, .slice A2_3 l2_3.length c2_3]) (t := 26) ?hr ?_; (case hd => rfl); (case hg => rfl); (case hr => first | (go_simp; done) | (go_simp; rfl)); intro gb269 hg w15 hbox hb; have n0_ := Aside0.mk (below_step (by repeat (first | (with_reducible first | exact HB.out | apply below_alloc | apply pw_below_drewN | apply below_drew1) | exact HB.out)) hb); have n1_ := Aside0.mk (hbox); have n2_ := Aside0.mk ((by rw [hg]; exact (below_size (by repeat (first | (with_reducible first | exact HB.out | apply below_alloc | apply pw_below_drewN | apply below_drew1) | exact HB.out))) : w.heap.size ≤ gb269)); have n3_ := Aside0.mk ((by rw [hg]; exact (below_size (by repeat (first | (with_reducible first | exact HB.out | apply below_alloc | apply pw_below_drewN | apply below_drew1) | exact HB.out))) : w.heap.size ≤ gb269)); clear HB; have HB := n0_; have BK269 := n1_; have GW269 := n2_; have GE269 := n3_; clear n0_ n1_ n2_ n3_; clear hb hbox hg; have hcz16_0 : w15.cell? ⟨gb269, 0, none⟩ = some (.int .u16 a2_0) := (blk_cell BK269.out 0).trans rfl; have hcz16_1 : w15.cell? ⟨gb269, 1, none⟩ = some (.int .u16 a2_1) := (blk_cell BK269.out 1).trans rfl; have hcz16_2 : w15.cell? ⟨gb269, 2, none⟩ = some (.int .u16 a2_2) := (blk_cell BK269.out 2).trans rfl; have hcz16_3 : w15.cell? ⟨gb269, 3, none⟩ = some (.slice A2_3 l2_3.length c2_3) := (blk_cell BK269.out 3).trans rfl; have hfz16_0 := blk_frozen BK269.out 0; have hfz16_1 := blk_frozen BK269.out 1; have hfz16_2 := blk_frozen BK269.out 2; have hfz16_3 := blk_frozen BK269.out 3) | ((with_reducible refine gate_callee (f := 18) rfl ?_); refine goesL_ (some 13) rfl rfl Try.func18 (by kernel_rfl) rfl #[.agg #[.int .u16 a2_0, .int .u16 a2_1, .int .u16 0, .slice A2_3 l2_3.length c2_3]] rfl (by (try simp only [List.map_toArray, List.map_cons, List.map_nil]); first | done | rfl | (simp only [List.length_drop, List.length_take]; rfl) | (go_simp; done) | (simp [Act.eval, IntKind.signed]; done) | (simp [Act.eval, IntKind.signed]; rfl)) ?_; (with_reducible refine (lychref1_UdpBytes.calls a2_0 a2_1 0 _ _ l2_3 t270 t273 _ ?side1 ?side2 A4.out).mono ?_); (case side1 => exact Kd.C_below HR2_3.out (by repeat (first | (with_reducible first | exact HB.out | apply below_alloc | apply pw_below_drewN | apply below_drew1 | refine below_set ?_ GE269.out) | exact HB.out))); (case side2 => exact HC2_3.out); rintro e w17 ⟨v271, rfl, ho0, hb⟩; refine ⟨_, rfl, ?_⟩; have n0_ := Aside0.mk (Kd.R_lower ho0 (below_size (by repeat (first | (with_reducible first | exact HB.out | apply below_alloc | apply pw_below_drewN | apply below_drew1 | refine below_set ?_ GE269.out) | exact HB.out)))); have n1_ := Aside0.mk (blk_below (g := gb269) (o := .cells #[.int .u16 a2_0, .int .u16 a2_1, .int .u16 0, .slice A2_3 l2_3.length c2_3] 26 (0, 0)) (by (with_reducible repeat (first | refine blk_drewN ?_ _ | refine blk_drew ?_ | refine blk_alloc ?_ _)); refine blk_put (cs := #[.int .u16 a2_0, .int .u16 a2_1, .int .u16 a2_2, .slice A2_3 l2_3.length c2_3]) ?_ 2 _ rfl; (with_reducible repeat (first | refine blk_drewN ?_ _ | refine blk_drew ?_ | refine blk_alloc ?_ _)); exact BK269.out) hb); have n2_ := Aside0.mk (below_step (by repeat (first | (with_reducible first | exact HB.out | apply below_alloc | apply pw_below_drewN | apply below_drew1 | refine below_set ?_ GE269.out) | exact HB.out)) hb); clear BK269; clear HB; have HO272 := n0_; have BK269 := n1_; have HB := n2_; clear n0_ n1_ n2_; (try clear hb); (try clear hb2); (try clear hk); (try clear hi); (try clear ho0); obtain ⟨Ao18, co18, eo18⟩ := Kd.R_slice HO272.out; subst eo18) | ((with_reducible refine gate_callee (f := 39) rfl ?_); refine goesL_ (some 22) rfl rfl Try.func39 (by kernel_rfl) rfl #[.int .u32 a0, .int .u32 a1, .int .u8 17, .int .i64 (t270.length : Int)] rfl (by (try simp only [List.map_toArray, List.map_cons, List.map_nil]); first | done | rfl | (simp only [List.length_drop, List.length_take]; rfl) | (go_simp; done) | (simp [Act.eval, IntKind.signed]; done) | (simp [Act.eval, IntKind.signed]; rfl)) ?_; (with_reducible refine (lychref1_Pseudo.calls k a0 a1 17 (t270.length : Int) t274 _ A6.out).mono ?_); rintro e w' ⟨rfl, ⟨nd, rfl⟩⟩; refine ⟨_, rfl, ?_⟩) | ((with_reducible refine gate_callee (f := 38) rfl ?_); refine goesL_ (some 24) rfl rfl Try.func38 (by kernel_rfl) rfl #[.int .u32 t274, .slice Ao18 t270.length co18] rfl (by (try simp only [List.map_toArray, List.map_cons, List.map_nil]); first | done | rfl | (simp only [List.length_drop, List.length_take]; rfl) | (go_simp; done) | (simp [Act.eval, IntKind.signed]; done) | (simp [Act.eval, IntKind.signed]; rfl)) ?_; (with_reducible refine (lychref1_Add.calls k t274 _ _ t270 t275 _ ?side1 ?side2 A7.out).mono ?_); (case side1 => repeat (first | exact (Kd.R_reads' HO272.out).2.2 | (with_reducible refine Kd.C_alloc ?_ _) | (with_reducible refine Kd.C_drewN ?_ _) | (with_reducible refine Kd.C_drew ?_))); (case side2 => exact (Kd.R_reads' HO272.out).2.1); rintro e w19 ⟨rfl, hb⟩; refine ⟨_, rfl, ?_⟩; have n0_ := Aside0.mk (Kd.R_below (by (with_reducible repeat (first | apply Kd.R_alloc | apply Kd.R_drewN | apply Kd.R_drew)); exact HO272.out) hb); have n1_ := Aside0.mk (blk_below (g := gb269) (o := .cells #[.int .u16 a2_0, .int .u16 a2_1, .int .u16 0, .slice A2_3 l2_3.length c2_3] 26 (0, 0)) (by (with_reducible repeat (first | refine blk_drewN ?_ _ | refine blk_drew ?_ | refine blk_alloc ?_ _)); exact BK269.out) hb); have n2_ := Aside0.mk (below_step (by repeat (first | (with_reducible first | exact HB.out | apply below_alloc | apply pw_below_drewN | apply below_drew1 | refine below_set ?_ GE269.out) | exact HB.out)) hb); clear HO272; clear BK269; clear HB; have HO272 := n0_; have BK269 := n1_; have HB := n2_; clear n0_ n1_ n2_; (try clear hb); (try clear hb2); (try clear hk); (try clear hi)) | ((with_reducible refine gate_callee (f := 37) rfl ?_); refine goesL_ (some 25) rfl rfl Try.func37 (by kernel_rfl) rfl #[.int .u32 t275] rfl (by (try simp only [List.map_toArray, List.map_cons, List.map_nil]); first | done | rfl | (simp only [List.length_drop, List.length_take]; rfl) | (go_simp; done) | (simp [Act.eval, IntKind.signed]; done) | (simp [Act.eval, IntKind.signed]; rfl)) ?_; (with_reducible refine (lychref1_Fold.calls k t275 t276 _ A8.out).mono ?_); rintro e w' ⟨rfl, ⟨nd, rfl⟩⟩; refine ⟨_, rfl, ?_⟩))
      go_ret
      exact ⟨by first | rfl | (simp [errW_none, errW_some] <;> rfl) | (simp [*, errW_none, errW_some] <;> rfl), by repeat (first | (with_reducible first | exact HB.out | apply below_alloc | apply pw_below_drewN | apply below_drew1 | refine below_set ?_ GE269.out) | exact HB.out)⟩
  · rw [if_neg c5] at H
    have c5b0 : (t273 == 0) = false := beq_eq_false_iff_ne.mpr c5
    have c5b1 : (t273 != 0) = true := bne_iff_ne.mpr c5
    obtain rfl := Option.some.inj H
    go_enter Try.func21, Try.ntmps21
    go_wp2_with (first | ((with_reducible refine gate_dst (N := 5) rfl ?_); refine box_event ?hg (N := 5) ?hd (cs := #[.int .u16 a2_0, .int .u16 a2_1, .int .u16 a2_2, .slice A2_3 l2_3.length c2_3]) (t := 26) ?hr ?_; (case hd => rfl); (case hg => rfl); (case hr => first | (go_simp; done) | (go_simp; rfl)); intro gb269 hg w20 hbox hb; have n0_ := Aside0.mk (below_step (by repeat (first | (with_reducible first | exact HB.out | apply below_alloc | apply pw_below_drewN | apply below_drew1) | exact HB.out)) hb); have n1_ := Aside0.mk (hbox); have n2_ := Aside0.mk ((by rw [hg]; exact (below_size (by repeat (first | (with_reducible first | exact HB.out | apply below_alloc | apply pw_below_drewN | apply below_drew1) | exact HB.out))) : w.heap.size ≤ gb269)); have n3_ := Aside0.mk ((by rw [hg]; exact (below_size (by repeat (first | (with_reducible first | exact HB.out | apply below_alloc | apply pw_below_drewN | apply below_drew1) | exact HB.out))) : w.heap.size ≤ gb269)); clear HB; have HB := n0_; have BK269 := n1_; have GW269 := n2_; have GE269 := n3_; clear n0_ n1_ n2_ n3_; clear hb hbox hg; have hcz21_0 : w20.cell? ⟨gb269, 0, none⟩ = some (.int .u16 a2_0) := (blk_cell BK269.out 0).trans rfl; have hcz21_1 : w20.cell? ⟨gb269, 1, none⟩ = some (.int .u16 a2_1) := (blk_cell BK269.out 1).trans rfl; have hcz21_2 : w20.cell? ⟨gb269, 2, none⟩ = some (.int .u16 a2_2) := (blk_cell BK269.out 2).trans rfl; have hcz21_3 : w20.cell? ⟨gb269, 3, none⟩ = some (.slice A2_3 l2_3.length c2_3) := (blk_cell BK269.out 3).trans rfl; have hfz21_0 := blk_frozen BK269.out 0; have hfz21_1 := blk_frozen BK269.out 1; have hfz21_2 := blk_frozen BK269.out 2; have hfz21_3 := blk_frozen BK269.out 3) | ((with_reducible refine gate_callee (f := 18) rfl ?_); refine goesL_ (some 13) rfl rfl Try.func18 (by kernel_rfl) rfl #[.agg #[.int .u16 a2_0, .int .u16 a2_1, .int .u16 0, .slice A2_3 l2_3.length c2_3]] rfl (by (try simp only [List.map_toArray, List.map_cons, List.map_nil]); first | done | rfl | (simp only [List.length_drop, List.length_take]; rfl) | (go_simp; done) | (simp [Act.eval, IntKind.signed]; done) | (simp [Act.eval, IntKind.signed]; rfl)) ?_; (with_reducible refine (lychref1_UdpBytes.calls a2_0 a2_1 0 _ _ l2_3 t270 t273 _ ?side1 ?side2 A4.out).mono ?_); (case side1 => exact Kd.C_below HR2_3.out (by repeat (first | (with_reducible first | exact HB.out | apply below_alloc | apply pw_below_drewN | apply below_drew1 | refine below_set ?_ GE269.out) | exact HB.out))); (case side2 => exact HC2_3.out); rintro e w22 ⟨v271, rfl, ho0, hb⟩; refine ⟨_, rfl, ?_⟩; have n0_ := Aside0.mk (Kd.R_lower ho0 (below_size (by repeat (first | (with_reducible first | exact HB.out | apply below_alloc | apply pw_below_drewN | apply below_drew1 | refine below_set ?_ GE269.out) | exact HB.out)))); have n1_ := Aside0.mk (blk_below (g := gb269) (o := .cells #[.int .u16 a2_0, .int .u16 a2_1, .int .u16 0, .slice A2_3 l2_3.length c2_3] 26 (0, 0)) (by (with_reducible repeat (first | refine blk_drewN ?_ _ | refine blk_drew ?_ | refine blk_alloc ?_ _)); refine blk_put (cs := #[.int .u16 a2_0, .int .u16 a2_1, .int .u16 a2_2, .slice A2_3 l2_3.length c2_3]) ?_ 2 _ rfl; (with_reducible repeat (first | refine blk_drewN ?_ _ | refine blk_drew ?_ | refine blk_alloc ?_ _)); exact BK269.out) hb); have n2_ := Aside0.mk (below_step (by repeat (first | (with_reducible first | exact HB.out | apply below_alloc | apply pw_below_drewN | apply below_drew1 | refine below_set ?_ GE269.out) | exact HB.out)) hb); clear BK269; clear HB; have HO272 := n0_; have BK269 := n1_; have HB := n2_; clear n0_ n1_ n2_; (try clear hb); (try clear hb2); (try clear hk); (try clear hi); (try clear ho0)))
    go_ret
    exact ⟨by first | rfl | (simp [errW_none, errW_some] <;> rfl) | (simp [*, errW_none, errW_some] <;> rfl), by repeat (first | (with_reducible first | exact HB.out | apply below_alloc | apply pw_below_drewN | apply below_drew1 | refine below_set ?_ GE269.out) | exact HB.out)⟩

/-! ### lychref1_UdpRight: function 23 -/
def lychref1_UdpRight.f (k : Nat) (a0 : Int) (a1 : Int) (a2_0 : Int) (a2_1 : Int) (a2_2 : Int) (l2_3 : List Int) : Option (Bool) := if a2_2 = 0 then (some true) else ((lychref1_UdpBytes.f a2_0 a2_1 a2_2 l2_3).bind fun bt278 => (if bt278.2 = 0 then ((lychref1_Pseudo.f k a0 a1 17 (bt278.1.length : Int)).bind fun t282 => ((lychref1_Add.f k t282 bt278.1).bind fun t283 => ((lychref1_Fold.f k t283).bind fun t284 => (some (t284 == 65535))))) else (some false)))
theorem lychref1_UdpRight.mono : ∀ a0 a1 a2 a3 a4 a5 k, LeO (lychref1_UdpRight.f k a0 a1 a2 a3 a4 a5) (lychref1_UdpRight.f (k + 1) a0 a1 a2 a3 a4 a5) := by
  intro a0 a1 a2 a3 a4 a5 k
  unfold lychref1_UdpRight.f
  repeat' first
      | (with_reducible exact lychref1_Add.mono _ _ _)
      | (with_reducible exact lychref1_Fold.mono _ _)
      | (with_reducible exact lychref1_Pseudo.mono _ _ _ _ _)
      | (with_reducible exact LeO.refl _)
      | (with_reducible exact LeO.none _)
      | (with_reducible refine LeO.ite ?_ ?_)
      | (with_reducible refine LeO.bind ?_ (fun _ => ?_))
      | exact lychref1_Add.mono _ _ _
      | exact lychref1_Fold.mono _ _
      | exact lychref1_Pseudo.mono _ _ _ _ _
      | exact LeO.none _
      | refine LeO.ite ?_ ?_
      | refine LeO.bind ?_ (fun _ => ?_)
set_option maxHeartbeats 8000000 in
set_option maxRecDepth 100000 in
theorem lychref1_UdpRight.calls (k : Nat) (a0 : Int) (a1 : Int) (a2_0 : Int) (a2_1 : Int) (a2_2 : Int) (A2_3 : Option Addr) (c2_3 : Nat) (l2_3 : List Int) (r : Bool) (w : World) (hr2_3 : Kd.C (Kd.int .u8) w A2_3 l2_3.length l2_3) (hc2_3 : l2_3.length ≤ c2_3) (h : lychref1_UdpRight.f k a0 a1 a2_0 a2_1 a2_2 l2_3 = some r) :
    Calls Try.prog 23 #[.int .u32 a0, .int .u32 a1, .agg #[.int .u16 a2_0, .int .u16 a2_1, .int .u16 a2_2, .slice A2_3 l2_3.length c2_3]] w fun e w' => e = .returned (.bool r) ∧ Below w.heap.size w w' := by
  have hu26 := Try.underlying26
  have HR2_3 := Aside0.mk hr2_3
  have HC2_3 := Aside0.mk hc2_3
  clear hr2_3 hc2_3
  have HB := Aside0.mk (Below.refl w.heap.size w)
  have H : (if a2_2 = 0 then (some true) else ((lychref1_UdpBytes.f a2_0 a2_1 a2_2 l2_3).bind fun bt278 => (if bt278.2 = 0 then ((lychref1_Pseudo.f k a0 a1 17 (bt278.1.length : Int)).bind fun t282 => ((lychref1_Add.f k t282 bt278.1).bind fun t283 => ((lychref1_Fold.f k t283).bind fun t284 => (some (t284 == 65535))))) else (some false)))) = some r := h
  clear h
  by_cases c4 : a2_2 = 0
  · rw [if_pos c4] at H
    have c4b0 : (a2_2 == 0) = true := beq_iff_eq.mpr c4
    have c4b1 : (a2_2 != 0) = false := bne_eq_false_iff_eq.mpr c4
    clear c4
    obtain rfl := Option.some.inj H
    go_enter Try.func23, Try.ntmps23
    go_wp2_with (first | ((with_reducible refine gate_dst (N := 5) rfl ?_); (try (refine gate_guard (by rfl) ?_; dsimp only)); refine box_event ?hg (N := 5) ?hd (cs := #[.int .u16 a2_0, .int .u16 a2_1, .int .u16 a2_2, .slice A2_3 l2_3.length c2_3]) (t := 26) ?hr ?_; (case hd => rfl); (case hg => rfl); (case hr => first | (go_simp; done) | (go_simp; rfl)); intro gb277 hg w5 hbox hb; have n0_ := Aside0.mk (below_step (by repeat (first | (with_reducible first | exact HB.out | apply below_alloc | apply pw_below_drewN | apply below_drew1) | exact HB.out)) hb); have n1_ := Aside0.mk (hbox); have n2_ := Aside0.mk ((by rw [hg]; exact (below_size (by repeat (first | (with_reducible first | exact HB.out | apply below_alloc | apply pw_below_drewN | apply below_drew1) | exact HB.out))) : w.heap.size ≤ gb277)); have n3_ := Aside0.mk ((by rw [hg]; exact (below_size (by repeat (first | (with_reducible first | exact HB.out | apply below_alloc | apply pw_below_drewN | apply below_drew1) | exact HB.out))) : w.heap.size ≤ gb277)); clear HB; have HB := n0_; have BK277 := n1_; have GW277 := n2_; have GE277 := n3_; clear n0_ n1_ n2_ n3_; clear hb hbox hg; have hcz6_0 : w5.cell? ⟨gb277, 0, none⟩ = some (.int .u16 a2_0) := (blk_cell BK277.out 0).trans rfl; have hcz6_1 : w5.cell? ⟨gb277, 1, none⟩ = some (.int .u16 a2_1) := (blk_cell BK277.out 1).trans rfl; have hcz6_2 : w5.cell? ⟨gb277, 2, none⟩ = some (.int .u16 a2_2) := (blk_cell BK277.out 2).trans rfl; have hcz6_3 : w5.cell? ⟨gb277, 3, none⟩ = some (.slice A2_3 l2_3.length c2_3) := (blk_cell BK277.out 3).trans rfl; have hfz6_0 := blk_frozen BK277.out 0; have hfz6_1 := blk_frozen BK277.out 1; have hfz6_2 := blk_frozen BK277.out 2; have hfz6_3 := blk_frozen BK277.out 3))
    go_ret
    exact ⟨by first | rfl | (simp [errW_none, errW_some] <;> rfl) | (simp [*, errW_none, errW_some] <;> rfl), by repeat (first | (with_reducible first | exact HB.out | apply below_alloc | apply pw_below_drewN | apply below_drew1 | refine below_set ?_ GE277.out) | exact HB.out)⟩
  · rw [if_neg c4] at H
    have c4b0 : (a2_2 == 0) = false := beq_eq_false_iff_ne.mpr c4
    have c4b1 : (a2_2 != 0) = true := bne_iff_ne.mpr c4
    replace H := Option.bind_eq_some_iff.mp H
    obtain ⟨⟨t278, t281⟩, A70, H⟩ := H
    replace H : (if t281 = 0 then ((lychref1_Pseudo.f k a0 a1 17 (t278.length : Int)).bind fun t282 => ((lychref1_Add.f k t282 t278).bind fun t283 => ((lychref1_Fold.f k t283).bind fun t284 => (some (t284 == 65535))))) else (some false)) = some r := H
    have A7 := Aside0.mk A70
    clear A70
    by_cases c8 : t281 = 0
    · rw [if_pos c8] at H
      have c8b0 : (t281 == 0) = true := beq_iff_eq.mpr c8
      have c8b1 : (t281 != 0) = false := bne_eq_false_iff_eq.mpr c8
      clear c8
      replace H := Option.bind_eq_some_iff.mp H
      obtain ⟨t282, A90, H⟩ := H
      replace H : ((lychref1_Add.f k t282 t278).bind fun t283 => ((lychref1_Fold.f k t283).bind fun t284 => (some (t284 == 65535)))) = some r := H
      have A9 := Aside0.mk A90
      clear A90
      replace H := Option.bind_eq_some_iff.mp H
      obtain ⟨t283, A100, H⟩ := H
      replace H : ((lychref1_Fold.f k t283).bind fun t284 => (some (t284 == 65535))) = some r := H
      have A10 := Aside0.mk A100
      clear A100
      replace H := Option.bind_eq_some_iff.mp H
      obtain ⟨t284, A110, H⟩ := H
      replace H : (some (t284 == 65535)) = some r := H
      have A11 := Aside0.mk A110
      clear A110
      obtain rfl := Option.some.inj H
      go_enter Try.func23, Try.ntmps23
      go_wp2_with (first | ((with_reducible refine gate_dst (N := 5) rfl ?_); (try (refine gate_guard (by rfl) ?_; dsimp only)); refine box_event ?hg (N := 5) ?hd (cs := #[.int .u16 a2_0, .int .u16 a2_1, .int .u16 a2_2, .slice A2_3 l2_3.length c2_3]) (t := 26) ?hr ?_; (case hd => rfl); (case hg => rfl); (case hr => first | (go_simp; done) | (go_simp; rfl)); intro gb277 hg w12 hbox hb; have n0_ := Aside0.mk (below_step (by repeat (first | (with_reducible first | exact HB.out | apply below_alloc | apply pw_below_drewN | apply below_drew1) | exact HB.out)) hb); have n1_ := Aside0.mk (hbox); have n2_ := Aside0.mk ((by rw [hg]; exact (below_size (by repeat (first | (with_reducible first | exact HB.out | apply below_alloc | apply pw_below_drewN | apply below_drew1) | exact HB.out))) : w.heap.size ≤ gb277)); have n3_ := Aside0.mk ((by rw [hg]; exact (below_size (by repeat (first | (with_reducible first | exact HB.out | apply below_alloc | apply pw_below_drewN | apply below_drew1) | exact HB.out))) : w.heap.size ≤ gb277)); clear HB; have HB := n0_; have BK277 := n1_; have GW277 := n2_; have GE277 := n3_; clear n0_ n1_ n2_ n3_; clear hb hbox hg; have hcz13_0 : w12.cell? ⟨gb277, 0, none⟩ = some (.int .u16 a2_0) := (blk_cell BK277.out 0).trans rfl; have hcz13_1 : w12.cell? ⟨gb277, 1, none⟩ = some (.int .u16 a2_1) := (blk_cell BK277.out 1).trans rfl; have hcz13_2 : w12.cell? ⟨gb277, 2, none⟩ = some (.int .u16 a2_2) := (blk_cell BK277.out 2).trans rfl; have hcz13_3 : w12.cell? ⟨gb277, 3, none⟩ = some (.slice A2_3 l2_3.length c2_3) := (blk_cell BK277.out 3).trans rfl; have hfz13_0 := blk_frozen BK277.out 0; have hfz13_1 := blk_frozen BK277.out 1; have hfz13_2 := blk_frozen BK277.out 2; have hfz13_3 := blk_frozen BK277.out 3) | ((with_reducible refine gate_callee (f := 18) rfl ?_); refine goesL_ (some 14) rfl rfl Try.func18 (by kernel_rfl) rfl #[.agg #[.int .u16 a2_0, .int .u16 a2_1, .int .u16 a2_2, .slice A2_3 l2_3.length c2_3]] rfl (by (try simp only [List.map_toArray, List.map_cons, List.map_nil]); first | done | rfl | (simp only [List.length_drop, List.length_take]; rfl) | (go_simp; done) | (simp [Act.eval, IntKind.signed]; done) | (simp [Act.eval, IntKind.signed]; rfl)) ?_; (with_reducible refine (lychref1_UdpBytes.calls a2_0 a2_1 a2_2 _ _ l2_3 t278 t281 _ ?side1 ?side2 A7.out).mono ?_); (case side1 => repeat (first | exact (Kd.C_below HR2_3.out HB.out) | (with_reducible refine Kd.C_alloc ?_ _) | (with_reducible refine Kd.C_drewN ?_ _) | (with_reducible refine Kd.C_drew ?_))); (case side2 => exact HC2_3.out); rintro e w14 ⟨v279, rfl, ho0, hb⟩; refine ⟨_, rfl, ?_⟩; have n0_ := Aside0.mk (Kd.R_lower ho0 (below_size (by repeat (first | (with_reducible first | exact HB.out | apply below_alloc | apply pw_below_drewN | apply below_drew1 | refine below_set ?_ GE277.out) | exact HB.out)))); have n1_ := Aside0.mk (blk_below (g := gb277) (o := .cells #[.int .u16 a2_0, .int .u16 a2_1, .int .u16 a2_2, .slice A2_3 l2_3.length c2_3] 26 (0, 0)) (by (with_reducible repeat (first | refine blk_drewN ?_ _ | refine blk_drew ?_ | refine blk_alloc ?_ _)); exact BK277.out) hb); have n2_ := Aside0.mk (below_step (by repeat (first | (with_reducible first | exact HB.out | apply below_alloc | apply pw_below_drewN | apply below_drew1 | refine below_set ?_ GE277.out) | exact HB.out)) hb); clear BK277; clear HB; have HO280 := n0_; have BK277 := n1_; have HB := n2_; clear n0_ n1_ n2_; (try clear hb); (try clear hb2); (try clear hk); (try clear hi); (try clear ho0); obtain ⟨Ao15, co15, eo15⟩ := Kd.R_slice HO280.out; subst eo15) | (go_at_call 39; (with_reducible refine (lychref1_Pseudo.calls k a0 a1 17 (t278.length : Int) t282 _ A9.out).mono ?_); rintro e w' ⟨rfl, ⟨nd, rfl⟩⟩) | (go_at_call 38; (with_reducible refine (lychref1_Add.calls k t282 _ _ t278 t283 _ ?side1 ?side2 A10.out).mono ?_); (case side1 => repeat (first | exact (Kd.R_reads' HO280.out).2.2 | (with_reducible refine Kd.C_alloc ?_ _) | (with_reducible refine Kd.C_drewN ?_ _) | (with_reducible refine Kd.C_drew ?_))); (case side2 => exact (Kd.R_reads' HO280.out).2.1); rintro e w16 ⟨rfl, hb⟩; have n0_ := Aside0.mk (Kd.R_below (by (with_reducible repeat (first | apply Kd.R_alloc | apply Kd.R_drewN | apply Kd.R_drew)); exact HO280.out) hb); have n1_ := Aside0.mk (blk_below (g := gb277) (o := .cells #[.int .u16 a2_0, .int .u16 a2_1, .int .u16 a2_2, .slice A2_3 l2_3.length c2_3] 26 (0, 0)) (by (with_reducible repeat (first | refine blk_drewN ?_ _ | refine blk_drew ?_ | refine blk_alloc ?_ _)); exact BK277.out) hb); have n2_ := Aside0.mk (below_step (by repeat (first | (with_reducible first | exact HB.out | apply below_alloc | apply pw_below_drewN | apply below_drew1 | refine below_set ?_ GE277.out) | exact HB.out)) hb); clear HO280; clear BK277; clear HB; have HO280 := n0_; have BK277 := n1_; have HB := n2_; clear n0_ n1_ n2_; (try clear hb); (try clear hb2); (try clear hk); (try clear hi)) | (go_at_call 37; (with_reducible refine (lychref1_Fold.calls k t283 t284 _ A11.out).mono ?_); rintro e w' ⟨rfl, ⟨nd, rfl⟩⟩))
      go_ret
      exact ⟨by first | rfl | (simp [errW_none, errW_some] <;> rfl) | (simp [*, errW_none, errW_some] <;> rfl), by repeat (first | (with_reducible first | exact HB.out | apply below_alloc | apply pw_below_drewN | apply below_drew1 | refine below_set ?_ GE277.out) | exact HB.out)⟩
    · rw [if_neg c8] at H
      have c8b0 : (t281 == 0) = false := beq_eq_false_iff_ne.mpr c8
      have c8b1 : (t281 != 0) = true := bne_iff_ne.mpr c8
      obtain rfl := Option.some.inj H
      go_enter Try.func23, Try.ntmps23
      go_wp2_with (first | ((with_reducible refine gate_dst (N := 5) rfl ?_); (try (refine gate_guard (by rfl) ?_; dsimp only)); refine box_event ?hg (N := 5) ?hd (cs := #[.int .u16 a2_0, .int .u16 a2_1, .int .u16 a2_2, .slice A2_3 l2_3.length c2_3]) (t := 26) ?hr ?_; (case hd => rfl); (case hg => rfl); (case hr => first | (go_simp; done) | (go_simp; rfl)); intro gb277 hg w17 hbox hb; have n0_ := Aside0.mk (below_step (by repeat (first | (with_reducible first | exact HB.out | apply below_alloc | apply pw_below_drewN | apply below_drew1) | exact HB.out)) hb); have n1_ := Aside0.mk (hbox); have n2_ := Aside0.mk ((by rw [hg]; exact (below_size (by repeat (first | (with_reducible first | exact HB.out | apply below_alloc | apply pw_below_drewN | apply below_drew1) | exact HB.out))) : w.heap.size ≤ gb277)); have n3_ := Aside0.mk ((by rw [hg]; exact (below_size (by repeat (first | (with_reducible first | exact HB.out | apply below_alloc | apply pw_below_drewN | apply below_drew1) | exact HB.out))) : w.heap.size ≤ gb277)); clear HB; have HB := n0_; have BK277 := n1_; have GW277 := n2_; have GE277 := n3_; clear n0_ n1_ n2_ n3_; clear hb hbox hg; have hcz18_0 : w17.cell? ⟨gb277, 0, none⟩ = some (.int .u16 a2_0) := (blk_cell BK277.out 0).trans rfl; have hcz18_1 : w17.cell? ⟨gb277, 1, none⟩ = some (.int .u16 a2_1) := (blk_cell BK277.out 1).trans rfl; have hcz18_2 : w17.cell? ⟨gb277, 2, none⟩ = some (.int .u16 a2_2) := (blk_cell BK277.out 2).trans rfl; have hcz18_3 : w17.cell? ⟨gb277, 3, none⟩ = some (.slice A2_3 l2_3.length c2_3) := (blk_cell BK277.out 3).trans rfl; have hfz18_0 := blk_frozen BK277.out 0; have hfz18_1 := blk_frozen BK277.out 1; have hfz18_2 := blk_frozen BK277.out 2; have hfz18_3 := blk_frozen BK277.out 3) | ((with_reducible refine gate_callee (f := 18) rfl ?_); refine goesL_ (some 14) rfl rfl Try.func18 (by kernel_rfl) rfl #[.agg #[.int .u16 a2_0, .int .u16 a2_1, .int .u16 a2_2, .slice A2_3 l2_3.length c2_3]] rfl (by (try simp only [List.map_toArray, List.map_cons, List.map_nil]); first | done | rfl | (simp only [List.length_drop, List.length_take]; rfl) | (go_simp; done) | (simp [Act.eval, IntKind.signed]; done) | (simp [Act.eval, IntKind.signed]; rfl)) ?_; (with_reducible refine (lychref1_UdpBytes.calls a2_0 a2_1 a2_2 _ _ l2_3 t278 t281 _ ?side1 ?side2 A7.out).mono ?_); (case side1 => repeat (first | exact (Kd.C_below HR2_3.out HB.out) | (with_reducible refine Kd.C_alloc ?_ _) | (with_reducible refine Kd.C_drewN ?_ _) | (with_reducible refine Kd.C_drew ?_))); (case side2 => exact HC2_3.out); rintro e w19 ⟨v279, rfl, ho0, hb⟩; refine ⟨_, rfl, ?_⟩; have n0_ := Aside0.mk (Kd.R_lower ho0 (below_size (by repeat (first | (with_reducible first | exact HB.out | apply below_alloc | apply pw_below_drewN | apply below_drew1 | refine below_set ?_ GE277.out) | exact HB.out)))); have n1_ := Aside0.mk (blk_below (g := gb277) (o := .cells #[.int .u16 a2_0, .int .u16 a2_1, .int .u16 a2_2, .slice A2_3 l2_3.length c2_3] 26 (0, 0)) (by (with_reducible repeat (first | refine blk_drewN ?_ _ | refine blk_drew ?_ | refine blk_alloc ?_ _)); exact BK277.out) hb); have n2_ := Aside0.mk (below_step (by repeat (first | (with_reducible first | exact HB.out | apply below_alloc | apply pw_below_drewN | apply below_drew1 | refine below_set ?_ GE277.out) | exact HB.out)) hb); clear BK277; clear HB; have HO280 := n0_; have BK277 := n1_; have HB := n2_; clear n0_ n1_ n2_; (try clear hb); (try clear hb2); (try clear hk); (try clear hi); (try clear ho0)))
      go_ret
      exact ⟨by first | rfl | (simp [errW_none, errW_some] <;> rfl) | (simp [*, errW_none, errW_some] <;> rfl), by repeat (first | (with_reducible first | exact HB.out | apply below_alloc | apply pw_below_drewN | apply below_drew1 | refine below_set ?_ GE277.out) | exact HB.out)⟩

end Go.Proofs.Ytnodigdpodiphaa.PA
