-- written by a patched print
import Derived.Test.YtnodigdpodiphaaPAx0
import Derived.Test.YtnodigdpodiphaaPAx10
import Derived.Test.YtnodigdpodiphaaPAx15
import Derived.Test.YtnodigdpodiphaaPAx16
namespace Go.Proofs.Ytnodigdpodiphaa.PA
open Go.RowKit Go.Proofs.YtnodigdpodiphaaW.PrintWords Go.Proofs.YtnodigdpodiphaaW.PrintLast Go.Proofs.YtnodigdpodiphaaW.PrintMore
attribute [local go_sem] max2_int min2_int max_two min_two max_three min_three max_four min_four   -- for this text's walks alone
set_option linter.unusedVariables false
set_option linter.unusedSimpArgs false

/-! ### lychlaw5_TcpGreat: function 11 -/
def lychlaw5_TcpGreat.f (k : Nat) (a0 : Int) : Option (Bool) := (lychlaw5_known.f k).bind fun t570 => (if t570 = true then ((lychhelp_Place.f a0 5).bind fun t571 => (if 0 ≤ (wrap64 (65493 + t571)) then (if (wrap64 (65493 + t571) : Int).toNat ≤ 281474976710656 then ((tcp_Bytes.f k 0 0 0 0 0 0 0 0 ([] : List Int) (List.replicate (wrap64 (65493 + t571) : Int).toNat 0)).bind fun bt575 => (if (wrap64 (65493 + t571)) > 65495 then (if bt575.2 = 23 then (some ((bt575.1.length : Int) == 0)) else (none)) else (if bt575.2 = 0 then (some ((bt575.1.length : Int) == (wrap64 ((wrap64 (65493 + t571)) + 20)))) else (none)))) else (none)) else (none))) else (none))
theorem lychlaw5_TcpGreat.mono : ∀ a0 k, LeO (lychlaw5_TcpGreat.f k a0) (lychlaw5_TcpGreat.f (k + 1) a0) := by
  intro a0 k
  unfold lychlaw5_TcpGreat.f
  repeat' first
      | (with_reducible exact lychlaw5_known.mono _)
      | (with_reducible exact tcp_Bytes.mono _ _ _ _ _ _ _ _ _ _ _)
      | (with_reducible exact LeO.refl _)
      | (with_reducible exact LeO.none _)
      | (with_reducible refine LeO.ite ?_ ?_)
      | (with_reducible refine LeO.bind ?_ (fun _ => ?_))
      | exact lychlaw5_known.mono _
      | exact tcp_Bytes.mono _ _ _ _ _ _ _ _ _ _ _
      | exact LeO.none _
      | refine LeO.ite ?_ ?_
      | refine LeO.bind ?_ (fun _ => ?_)
set_option maxHeartbeats 8000000 in
set_option maxRecDepth 100000 in
theorem lychlaw5_TcpGreat.calls (k : Nat) (a0 : Int) (r : Bool) (w : World) (h : lychlaw5_TcpGreat.f k a0 = some r) :
    Calls Try.prog 11 #[.int .i64 a0] w fun e w' => e = .returned (.bool r) ∧ Below w.heap.size w w' := by
  have hu49 := Try.underlying49
  have HB := Aside0.mk (Below.refl w.heap.size w)
  have H : ((lychlaw5_known.f k).bind fun t570 => (if t570 = true then ((lychhelp_Place.f a0 5).bind fun t571 => (if 0 ≤ (wrap64 (65493 + t571)) then (if (wrap64 (65493 + t571) : Int).toNat ≤ 281474976710656 then ((tcp_Bytes.f k 0 0 0 0 0 0 0 0 ([] : List Int) (List.replicate (wrap64 (65493 + t571) : Int).toNat 0)).bind fun bt575 => (if (wrap64 (65493 + t571)) > 65495 then (if bt575.2 = 23 then (some ((bt575.1.length : Int) == 0)) else (none)) else (if bt575.2 = 0 then (some ((bt575.1.length : Int) == (wrap64 ((wrap64 (65493 + t571)) + 20)))) else (none)))) else (none)) else (none))) else (none))) = some r := h
  clear h
  replace H := Option.bind_eq_some_iff.mp H
  obtain ⟨t570, A20, H⟩ := H
  replace H : (if t570 = true then ((lychhelp_Place.f a0 5).bind fun t571 => (if 0 ≤ (wrap64 (65493 + t571)) then (if (wrap64 (65493 + t571) : Int).toNat ≤ 281474976710656 then ((tcp_Bytes.f k 0 0 0 0 0 0 0 0 ([] : List Int) (List.replicate (wrap64 (65493 + t571) : Int).toNat 0)).bind fun bt575 => (if (wrap64 (65493 + t571)) > 65495 then (if bt575.2 = 23 then (some ((bt575.1.length : Int) == 0)) else (none)) else (if bt575.2 = 0 then (some ((bt575.1.length : Int) == (wrap64 ((wrap64 (65493 + t571)) + 20)))) else (none)))) else (none)) else (none))) else (none)) = some r := H
  have A2 := Aside0.mk A20
  clear A20
  by_cases c3 : t570 = true
  · subst c3
    have H1 : ((lychhelp_Place.f a0 5).bind fun t571 => (if 0 ≤ (wrap64 (65493 + t571)) then (if (wrap64 (65493 + t571) : Int).toNat ≤ 281474976710656 then ((tcp_Bytes.f k 0 0 0 0 0 0 0 0 ([] : List Int) (List.replicate (wrap64 (65493 + t571) : Int).toNat 0)).bind fun bt575 => (if (wrap64 (65493 + t571)) > 65495 then (if bt575.2 = 23 then (some ((bt575.1.length : Int) == 0)) else (none)) else (if bt575.2 = 0 then (some ((bt575.1.length : Int) == (wrap64 ((wrap64 (65493 + t571)) + 20)))) else (none)))) else (none)) else (none))) = some r := by rw [if_pos rfl] at H; exact H
    clear H
    have H := H1
    clear H1
    replace H := Option.bind_eq_some_iff.mp H
    obtain ⟨t571, A40, H⟩ := H
    replace H : (if 0 ≤ (wrap64 (65493 + t571)) then (if (wrap64 (65493 + t571) : Int).toNat ≤ 281474976710656 then ((tcp_Bytes.f k 0 0 0 0 0 0 0 0 ([] : List Int) (List.replicate (wrap64 (65493 + t571) : Int).toNat 0)).bind fun bt575 => (if (wrap64 (65493 + t571)) > 65495 then (if bt575.2 = 23 then (some ((bt575.1.length : Int) == 0)) else (none)) else (if bt575.2 = 0 then (some ((bt575.1.length : Int) == (wrap64 ((wrap64 (65493 + t571)) + 20)))) else (none)))) else (none)) else (none)) = some r := H
    have A4 := Aside0.mk A40
    clear A40
    obtain ⟨ji5, hji5⟩ : ∃ j_ : Int, (wrap64 (65493 + t571)) = j_ := ⟨_, rfl⟩
    replace H : (if 0 ≤ (ji5) then (if (ji5 : Int).toNat ≤ 281474976710656 then ((tcp_Bytes.f k 0 0 0 0 0 0 0 0 ([] : List Int) (List.replicate (ji5 : Int).toNat 0)).bind fun bt575 => (if (ji5) > 65495 then (if bt575.2 = 23 then (some ((bt575.1.length : Int) == 0)) else (none)) else (if bt575.2 = 0 then (some ((bt575.1.length : Int) == (wrap64 ((ji5) + 20)))) else (none)))) else (none)) else (none)) = some r := by first | (rw [hji5] at H; exact H) | (simp only [hji5] at H ⊢; exact H)
    (try rw [hji5] at A2)
    (try rw [hji5] at A4)
    have hji5w : (IntKind.i64.wrap (65493 + t571)) = ji5 := (i64_w _).trans hji5
    by_cases c6 : 0 ≤ (ji5)
    · rw [if_pos c6] at H
      have c6b0 := eq_true c6
      have c6b1 : decide (0 ≤ (ji5)) = true := decide_eq_true c6
      clear c6
      by_cases c7 : (ji5 : Int).toNat ≤ 281474976710656
      · rw [if_pos c7] at H
        have c7b0 := eq_true c7
        have c7b1 : decide ((ji5 : Int).toNat ≤ 281474976710656) = true := decide_eq_true c7
        clear c7
        obtain ⟨y572, hy572⟩ : ∃ y_ : List Int, y_ = (List.replicate (ji5 : Int).toNat 0) := ⟨_, rfl⟩
        replace H : ((tcp_Bytes.f k 0 0 0 0 0 0 0 0 ([] : List Int) y572).bind fun bt575 => (if (ji5) > 65495 then (if bt575.2 = 23 then (some ((bt575.1.length : Int) == 0)) else (none)) else (if bt575.2 = 0 then (some ((bt575.1.length : Int) == (wrap64 ((ji5) + 20)))) else (none)))) = some r := by first | (rw [hy572]; with_reducible exact H) | (have H2_ := (Option.bind_some _ _).symm.trans H; rw [hy572]; with_reducible exact H2_) | (have H2_ := (Option.bind_some _ _).symm.trans H; with_reducible exact H2_) | with_reducible exact H | (rw [hy572]; exact H) | exact H
        have Ny572 := Aside0.mk hy572
        clear hy572
        replace H := Option.bind_eq_some_iff.mp H
        obtain ⟨⟨t575, t578⟩, A80, H⟩ := H
        replace H : (if (ji5) > 65495 then (if t578 = 23 then (some ((t575.length : Int) == 0)) else (none)) else (if t578 = 0 then (some ((t575.length : Int) == (wrap64 ((ji5) + 20)))) else (none))) = some r := H
        have A8 := Aside0.mk A80
        clear A80
        by_cases c9 : (ji5) > 65495
        · rw [if_pos c9] at H
          have c9b0 : decide (65495 < (ji5)) = true := decide_eq_true c9
          clear c9
          by_cases c10 : t578 = 23
          · rw [if_pos c10] at H
            have c10b0 : (t578 == 23) = true := beq_iff_eq.mpr c10
            have c10b1 : (t578 != 23) = false := bne_eq_false_iff_eq.mpr c10
            clear c10
            obtain rfl := Option.some.inj H
            go_enter Try.func11, Try.ntmps11
            go_wp2_with (first | ((with_reducible refine gate_callee (f := 25) rfl ?_); refine goesL_ (some 5) rfl rfl Try.func25 (by kernel_rfl) rfl #[] rfl (by (try simp only [List.map_toArray, List.map_cons, List.map_nil]); first | done | rfl | (simp only [List.length_drop, List.length_take]; rfl) | (go_simp; done) | (simp [Act.eval, IntKind.signed]; done) | (simp [Act.eval, IntKind.signed]; rfl)) ?_; (with_reducible refine (lychlaw5_known.calls k  true _ A2.out).mono ?_); rintro e w11 ⟨rfl, hb⟩; refine ⟨_, rfl, ?_⟩; have n0_ := Aside0.mk (below_step (by repeat (first | (with_reducible first | exact HB.out | apply below_alloc | apply pw_below_drewN | apply below_drew1) | exact HB.out)) hb); clear HB; have HB := n0_; clear n0_; (try clear hb); (try clear hb2); (try clear hk); (try clear hi)) | ((with_reducible refine gate_callee (f := 24) rfl ?_); refine goesL_ (some 8) rfl rfl Try.func24 (by kernel_rfl) rfl #[.int .i64 a0, .int .i64 5] rfl (by (try simp only [List.map_toArray, List.map_cons, List.map_nil]); first | done | rfl | (simp only [List.length_drop, List.length_take]; rfl) | (go_simp; done) | (simp [Act.eval, IntKind.signed]; done) | (simp [Act.eval, IntKind.signed]; rfl)) ?_; (with_reducible refine (lychhelp_Place.calls a0 5 t571 _ A4.out).mono ?_); rintro e w' ⟨rfl, ⟨nd, rfl⟩⟩; refine ⟨_, rfl, ?_⟩) | ((with_reducible refine gate_dst (N := 12) rfl ?_); (try (refine gate_guard (by rfl) ?_; dsimp only)); refine Kd.R_make (Kd.int .u8) _ 5 rfl (N := 12) rfl 22 _ _ rfl ji5 rfl rfl Try.underlying22 (.int .u8 0) 1 info5 rfl (by decide) (by omega) 0 (ok := fun _ => True) (okp := fun _ => True) rfl (fun _ hk => hk) trivial (of_decide_eq_true (by first | (with_reducible assumption) | assumption)) (Nat.le_trans (Nat.mul_le_mul_right _ (of_decide_eq_true (by first | (with_reducible assumption) | assumption) : ji5.toNat ≤ 281474976710656)) (by omega)) (Below.refl _ _) (Nat.le_refl _) ?_; intro v573 w12 ho13 hb hg_ hnew_; clear hg_ hnew_; (first | rw [← Ny572.out] at ho13 | (simp only [Int.reduceToNat] at ho13; rw [← Ny572.out] at ho13)); have n0_ := Aside0.mk (Kd.R_lower ho13 (below_size (by repeat (first | (with_reducible first | exact HB.out | apply below_alloc | apply pw_below_drewN | apply below_drew1) | exact HB.out)))); have n1_ := Aside0.mk (below_step (by repeat (first | (with_reducible first | exact HB.out | apply below_alloc | apply pw_below_drewN | apply below_drew1) | exact HB.out)) hb); clear HB; have HO574 := n0_; have HB := n1_; clear n0_ n1_; clear hb ho13; obtain ⟨Ao14, co14, eo14⟩ := Kd.R_slice HO574.out; subst eo14) | ((with_reducible refine gate_callee (f := 29) rfl ?_); refine goesL_ (some 14) rfl rfl Try.func29 (by kernel_rfl) rfl #[.agg #[.int .u16 0, .int .u16 0, .int .u32 0, .int .u32 0, .int .u8 0, .int .u16 0, .int .u16 0, .int .u16 0, .slice none 0 0, .slice Ao14 y572.length co14]] rfl (by (try simp only [List.map_toArray, List.map_cons, List.map_nil]); first | done | rfl | (simp only [List.length_drop, List.length_take]; rfl) | (go_simp; done) | (simp [Act.eval, IntKind.signed]; done) | (simp [Act.eval, IntKind.signed]; rfl)) ?_; (refine (tcp_Bytes.calls k 0 0 0 0 0 0 0 0 (fun k_ => False) _ _ ([] : List Int) (fun k_ => some k_ = (.slice Ao14 y572.length co14 : Value).ownBlock) _ _ y572 t575 t578 _ ?side1 ?side2 A8.out).mono ?_); (case side1 => exact Kd.V_nil _ _ _ _ _); (case side2 => exact Kd.R_V (Kd.R_tight rfl (HO574.out))); rintro e w15 ⟨v576, rfl, ho0, hb⟩; refine ⟨_, rfl, ?_⟩; have n0_ := Aside0.mk (Kd.R_elder' (by (with_reducible repeat (first | apply Kd.R_alloc | apply Kd.R_drewN | apply Kd.R_drew)); exact HO574.out) (Kd.R_base ho0) hb); have n1_ := Aside0.mk (Kd.R_lower (Kd.R_new' (Kd.R_mono (ok' := fun k_ => True) ho0 (fun _ hk_ => trivial)) (Kd.R_lt (by (with_reducible repeat (first | apply Kd.R_alloc | apply Kd.R_drewN | apply Kd.R_drew)); exact HO574.out))) (below_size (by repeat (first | (with_reducible first | exact HB.out | apply below_alloc | apply pw_below_drewN | apply below_drew1) | exact HB.out)))); have n2_ := Aside0.mk (below_step (by repeat (first | (with_reducible first | exact HB.out | apply below_alloc | apply pw_below_drewN | apply below_drew1) | exact HB.out)) hb); clear HO574; clear HB; have HO574 := n0_; have HO577 := n1_; have HB := n2_; clear n0_ n1_ n2_; (try clear hb); (try clear hb2); (try clear hk); (try clear hi); (try clear ho0); obtain ⟨Ao16, co16, eo16⟩ := Kd.R_slice HO577.out; subst eo16))
            go_ret
            exact ⟨by first | rfl | (simp [errW_none, errW_some] <;> rfl) | (simp only [← hji5]; first | rfl | (simp [errW_none, errW_some] <;> rfl)) | (simp [*, errW_none, errW_some] <;> rfl), by repeat (first | (with_reducible first | exact HB.out | apply below_alloc | apply pw_below_drewN | apply below_drew1) | exact HB.out)⟩
          · rw [if_neg c10] at H
            exact absurd H (by simp)
        · rw [if_neg c9] at H
          have c9b0 : decide (65495 < (ji5)) = false := decide_eq_false c9
          clear c9
          by_cases c17 : t578 = 0
          · rw [if_pos c17] at H
            have c17b0 : (t578 == 0) = true := beq_iff_eq.mpr c17
            have c17b1 : (t578 != 0) = false := bne_eq_false_iff_eq.mpr c17
            clear c17
            obtain rfl := Option.some.inj H
            go_enter Try.func11, Try.ntmps11
            go_wp2_with (first | ((with_reducible refine gate_callee (f := 25) rfl ?_); refine goesL_ (some 5) rfl rfl Try.func25 (by kernel_rfl) rfl #[] rfl (by (try simp only [List.map_toArray, List.map_cons, List.map_nil]); first | done | rfl | (simp only [List.length_drop, List.length_take]; rfl) | (go_simp; done) | (simp [Act.eval, IntKind.signed]; done) | (simp [Act.eval, IntKind.signed]; rfl)) ?_; (with_reducible refine (lychlaw5_known.calls k  true _ A2.out).mono ?_); rintro e w18 ⟨rfl, hb⟩; refine ⟨_, rfl, ?_⟩; have n0_ := Aside0.mk (below_step (by repeat (first | (with_reducible first | exact HB.out | apply below_alloc | apply pw_below_drewN | apply below_drew1) | exact HB.out)) hb); clear HB; have HB := n0_; clear n0_; (try clear hb); (try clear hb2); (try clear hk); (try clear hi)) | ((with_reducible refine gate_callee (f := 24) rfl ?_); refine goesL_ (some 8) rfl rfl Try.func24 (by kernel_rfl) rfl #[.int .i64 a0, .int .i64 5] rfl (by (try simp only [List.map_toArray, List.map_cons, List.map_nil]); first | done | rfl | (simp only [List.length_drop, List.length_take]; rfl) | (go_simp; done) | (simp [Act.eval, IntKind.signed]; done) | (simp [Act.eval, IntKind.signed]; rfl)) ?_; (with_reducible refine (lychhelp_Place.calls a0 5 t571 _ A4.out).mono ?_); rintro e w' ⟨rfl, ⟨nd, rfl⟩⟩; refine ⟨_, rfl, ?_⟩) | ((with_reducible refine gate_dst (N := 12) rfl ?_); (try (refine gate_guard (by rfl) ?_; dsimp only)); refine Kd.R_make (Kd.int .u8) _ 5 rfl (N := 12) rfl 22 _ _ rfl ji5 rfl rfl Try.underlying22 (.int .u8 0) 1 info5 rfl (by decide) (by omega) 0 (ok := fun _ => True) (okp := fun _ => True) rfl (fun _ hk => hk) trivial (of_decide_eq_true (by first | (with_reducible assumption) | assumption)) (Nat.le_trans (Nat.mul_le_mul_right _ (of_decide_eq_true (by first | (with_reducible assumption) | assumption) : ji5.toNat ≤ 281474976710656)) (by omega)) (Below.refl _ _) (Nat.le_refl _) ?_; intro v573 w19 ho20 hb hg_ hnew_; clear hg_ hnew_; (first | rw [← Ny572.out] at ho20 | (simp only [Int.reduceToNat] at ho20; rw [← Ny572.out] at ho20)); have n0_ := Aside0.mk (Kd.R_lower ho20 (below_size (by repeat (first | (with_reducible first | exact HB.out | apply below_alloc | apply pw_below_drewN | apply below_drew1) | exact HB.out)))); have n1_ := Aside0.mk (below_step (by repeat (first | (with_reducible first | exact HB.out | apply below_alloc | apply pw_below_drewN | apply below_drew1) | exact HB.out)) hb); clear HB; have HO574 := n0_; have HB := n1_; clear n0_ n1_; clear hb ho20; obtain ⟨Ao21, co21, eo21⟩ := Kd.R_slice HO574.out; subst eo21) | ((with_reducible refine gate_callee (f := 29) rfl ?_); refine goesL_ (some 14) rfl rfl Try.func29 (by kernel_rfl) rfl #[.agg #[.int .u16 0, .int .u16 0, .int .u32 0, .int .u32 0, .int .u8 0, .int .u16 0, .int .u16 0, .int .u16 0, .slice none 0 0, .slice Ao21 y572.length co21]] rfl (by (try simp only [List.map_toArray, List.map_cons, List.map_nil]); first | done | rfl | (simp only [List.length_drop, List.length_take]; rfl) | (go_simp; done) | (simp [Act.eval, IntKind.signed]; done) | (simp [Act.eval, IntKind.signed]; rfl)) ?_; (refine (tcp_Bytes.calls k 0 0 0 0 0 0 0 0 (fun k_ => False) _ _ ([] : List Int) (fun k_ => some k_ = (.slice Ao21 y572.length co21 : Value).ownBlock) _ _ y572 t575 t578 _ ?side1 ?side2 A8.out).mono ?_); (case side1 => exact Kd.V_nil _ _ _ _ _); (case side2 => exact Kd.R_V (Kd.R_tight rfl (HO574.out))); rintro e w22 ⟨v576, rfl, ho0, hb⟩; refine ⟨_, rfl, ?_⟩; have n0_ := Aside0.mk (Kd.R_elder' (by (with_reducible repeat (first | apply Kd.R_alloc | apply Kd.R_drewN | apply Kd.R_drew)); exact HO574.out) (Kd.R_base ho0) hb); have n1_ := Aside0.mk (Kd.R_lower (Kd.R_new' (Kd.R_mono (ok' := fun k_ => True) ho0 (fun _ hk_ => trivial)) (Kd.R_lt (by (with_reducible repeat (first | apply Kd.R_alloc | apply Kd.R_drewN | apply Kd.R_drew)); exact HO574.out))) (below_size (by repeat (first | (with_reducible first | exact HB.out | apply below_alloc | apply pw_below_drewN | apply below_drew1) | exact HB.out)))); have n2_ := Aside0.mk (below_step (by repeat (first | (with_reducible first | exact HB.out | apply below_alloc | apply pw_below_drewN | apply below_drew1) | exact HB.out)) hb); clear HO574; clear HB; have HO574 := n0_; have HO577 := n1_; have HB := n2_; clear n0_ n1_ n2_; (try clear hb); (try clear hb2); (try clear hk); (try clear hi); (try clear ho0); obtain ⟨Ao23, co23, eo23⟩ := Kd.R_slice HO577.out; subst eo23))
            go_ret
            exact ⟨by first | rfl | (simp [errW_none, errW_some] <;> rfl) | (simp only [← hji5]; first | rfl | (simp [errW_none, errW_some] <;> rfl)) | (simp [*, errW_none, errW_some] <;> rfl), by repeat (first | (with_reducible first | exact HB.out | apply below_alloc | apply pw_below_drewN | apply below_drew1) | exact HB.out)⟩
          · rw [if_neg c17] at H
            exact absurd H (by simp)
      · rw [if_neg c7] at H
        exact absurd H (by simp)
    · rw [if_neg c6] at H
      exact absurd H (by simp)
  · replace c3 := Bool.eq_false_iff.mpr c3
    subst c3
    have H1 : (none) = some r := by rw [if_neg (show ¬ (false = true) by decide)] at H; exact H
    clear H
    have H := H1
    clear H1
    exact absurd H (by simp)

/-- THE ONE PURE STATEMENT of lychlaw5_TcpGreat: yours. -/
def lychlaw5_TcpGreat.Pure : Prop := ∀ (a0 : Int), (Lit.int .i64 a0).wf = true → ∃ k, lychlaw5_TcpGreat.f k a0 = some true
theorem lychlaw5_TcpGreat.walk (P : lychlaw5_TcpGreat.Pure) (a0 : Int) (w : World) (w0 : (Lit.int .i64 a0).wf = true) :
    Calls Try.prog 11 #[.int .i64 a0] w fun e w' => e = .returned (.bool true) ∧ Below w.heap.size w w' := by
  obtain ⟨k, h⟩ := P a0 w0
  refine (lychlaw5_TcpGreat.calls k a0 true w h).mono ?_
  rintro e w' ⟨rfl, hd⟩
  exact ⟨rfl, hd⟩

end Go.Proofs.Ytnodigdpodiphaa.PA
