-- written by a patched print
import Derived.Test.YtmlmiiejifhfeaaPAx0
import Derived.Test.YtmlmiiejifhfeaaPAx7
import Derived.Test.YtmlmiiejifhfeaaPAx8
import Derived.Test.YtmlmiiejifhfeaaPAx19
namespace Go.Proofs.Ytmlmiiejifhfeaa.PA
open Go.RowKit Go.Proofs.YtmlmiiejifhfeaaW.PrintWords Go.Proofs.YtmlmiiejifhfeaaW.PrintLast Go.Proofs.YtmlmiiejifhfeaaW.PrintMore
attribute [local go_sem] max2_int min2_int max_two min_two max_three min_three max_four min_four   -- for this text's walks alone
set_option linter.unusedVariables false
set_option linter.unusedSimpArgs false

/-! ### lychlaw3_IpGreat: function 6 -/
def lychlaw3_IpGreat.f (k : Nat) (a0 : Int) (a1 : Int) : Option (Bool) := (lychlaw3_known.f k).bind fun t470 => (if t470 = true then ((lychhelp_Place.f a0 5).bind fun t471 => (if 0 ≤ (wrap64 ((wrap64 (Int.tmod a1 11)) * 4)) then (if (wrap64 ((wrap64 (Int.tmod a1 11)) * 4) : Int).toNat ≤ 281474976710656 then (if 0 ≤ (wrap64 ((wrap64 ((wrap64 (65515 - (wrap64 ((wrap64 (Int.tmod a1 11)) * 4)))) - 2)) + t471)) then (if (wrap64 ((wrap64 ((wrap64 (65515 - (wrap64 ((wrap64 (Int.tmod a1 11)) * 4)))) - 2)) + t471) : Int).toNat ≤ 281474976710656 then ((ip_Bytes.f k 0 0 0 0 0 0 0 0 (List.replicate (wrap64 ((wrap64 (Int.tmod a1 11)) * 4) : Int).toNat 0) (List.replicate (wrap64 ((wrap64 ((wrap64 (65515 - (wrap64 ((wrap64 (Int.tmod a1 11)) * 4)))) - 2)) + t471) : Int).toNat 0)).bind fun bt478 => (if (wrap64 ((wrap64 ((wrap64 (65515 - (wrap64 ((wrap64 (Int.tmod a1 11)) * 4)))) - 2)) + t471)) > (wrap64 (65515 - (wrap64 ((wrap64 (Int.tmod a1 11)) * 4)))) then (if bt478.2 = 23 then (some ((bt478.1.length : Int) == 0)) else (none)) else (if bt478.2 = 0 then (some ((bt478.1.length : Int) == (wrap64 ((wrap64 ((wrap64 ((wrap64 ((wrap64 (65515 - (wrap64 ((wrap64 (Int.tmod a1 11)) * 4)))) - 2)) + t471)) + 20)) + (wrap64 ((wrap64 (Int.tmod a1 11)) * 4)))))) else (none)))) else (none)) else (none)) else (none)) else (none))) else (none))
theorem lychlaw3_IpGreat.mono : ∀ a0 a1 k, LeO (lychlaw3_IpGreat.f k a0 a1) (lychlaw3_IpGreat.f (k + 1) a0 a1) := by
 intro a0 a1 k
 unfold lychlaw3_IpGreat.f
 repeat' first
   | (with_reducible exact ip_Bytes.mono _ _ _ _ _ _ _ _ _ _ _)
   | (with_reducible exact lychlaw3_known.mono _)
   | (with_reducible exact LeO.refl _)
   | (with_reducible exact LeO.none _)
   | (with_reducible refine LeO.ite ?_ ?_)
   | (with_reducible refine LeO.bind ?_ (fun _ => ?_))
   | exact ip_Bytes.mono _ _ _ _ _ _ _ _ _ _ _
   | exact lychlaw3_known.mono _
   | exact LeO.none _
   | refine LeO.ite ?_ ?_
   | refine LeO.bind ?_ (fun _ => ?_)
def lychlaw3_IpGreat.T5 : Bool × List (List Nat × List Nat) := (true, [([], []), ([0, 0], [0]), ([], []), ([2, 2], [2]), ([1, 3], [1, 3]), ([4], [4]), ([5], [5]), ([6], [6]), ([6], [6]), ([7, 5, 0, 1, 2, 3, 4, 5, 6, 7], [7]), ([8, 9, 0, 1, 2, 3, 4, 5, 6, 7, 8, 9], [8])])
def lychlaw3_IpGreat.B5 : List Nat := [0, 1, 0, 4, 15, 31, 63, 127, 127, 255, 1023]
theorem lychlaw3_IpGreat.tab5 : rtab .any (opsOf Try.f6 5) = lychlaw3_IpGreat.T5 := by kernel_rfl
theorem lychlaw3_IpGreat.bits5 : waitsOk lychlaw3_IpGreat.T5.2 lychlaw3_IpGreat.B5 = true := by kernel_rfl
set_option maxHeartbeats 8000000 in
set_option maxRecDepth 100000 in
theorem lychlaw3_IpGreat.calls (k : Nat) (a0 : Int) (a1 : Int) (r : Bool) (w : World) (h : lychlaw3_IpGreat.f k a0 a1 = some r) :
  Calls Try.prog 6 #[.int .i64 a0, .int .u8 a1] w fun e w' => e = .returned (.bool r) ∧ Below w.heap.size w w' := by
 have hu30 := Try.underlying30
 have HB := Aside0.mk (Below.refl w.heap.size w)
 have H : ((lychlaw3_known.f k).bind fun t470 => (if t470 = true then ((lychhelp_Place.f a0 5).bind fun t471 => (if 0 ≤ (wrap64 ((wrap64 (Int.tmod a1 11)) * 4)) then (if (wrap64 ((wrap64 (Int.tmod a1 11)) * 4) : Int).toNat ≤ 281474976710656 then (if 0 ≤ (wrap64 ((wrap64 ((wrap64 (65515 - (wrap64 ((wrap64 (Int.tmod a1 11)) * 4)))) - 2)) + t471)) then (if (wrap64 ((wrap64 ((wrap64 (65515 - (wrap64 ((wrap64 (Int.tmod a1 11)) * 4)))) - 2)) + t471) : Int).toNat ≤ 281474976710656 then ((ip_Bytes.f k 0 0 0 0 0 0 0 0 (List.replicate (wrap64 ((wrap64 (Int.tmod a1 11)) * 4) : Int).toNat 0) (List.replicate (wrap64 ((wrap64 ((wrap64 (65515 - (wrap64 ((wrap64 (Int.tmod a1 11)) * 4)))) - 2)) + t471) : Int).toNat 0)).bind fun bt478 => (if (wrap64 ((wrap64 ((wrap64 (65515 - (wrap64 ((wrap64 (Int.tmod a1 11)) * 4)))) - 2)) + t471)) > (wrap64 (65515 - (wrap64 ((wrap64 (Int.tmod a1 11)) * 4)))) then (if bt478.2 = 23 then (some ((bt478.1.length : Int) == 0)) else (none)) else (if bt478.2 = 0 then (some ((bt478.1.length : Int) == (wrap64 ((wrap64 ((wrap64 ((wrap64 ((wrap64 (65515 - (wrap64 ((wrap64 (Int.tmod a1 11)) * 4)))) - 2)) + t471)) + 20)) + (wrap64 ((wrap64 (Int.tmod a1 11)) * 4)))))) else (none)))) else (none)) else (none)) else (none)) else (none))) else (none))) = some r := h
 clear h
 replace H := Option.bind_eq_some_iff.mp H
 obtain ⟨t470, A30, H⟩ := H
 replace H : (if t470 = true then ((lychhelp_Place.f a0 5).bind fun t471 => (if 0 ≤ (wrap64 ((wrap64 (Int.tmod a1 11)) * 4)) then (if (wrap64 ((wrap64 (Int.tmod a1 11)) * 4) : Int).toNat ≤ 281474976710656 then (if 0 ≤ (wrap64 ((wrap64 ((wrap64 (65515 - (wrap64 ((wrap64 (Int.tmod a1 11)) * 4)))) - 2)) + t471)) then (if (wrap64 ((wrap64 ((wrap64 (65515 - (wrap64 ((wrap64 (Int.tmod a1 11)) * 4)))) - 2)) + t471) : Int).toNat ≤ 281474976710656 then ((ip_Bytes.f k 0 0 0 0 0 0 0 0 (List.replicate (wrap64 ((wrap64 (Int.tmod a1 11)) * 4) : Int).toNat 0) (List.replicate (wrap64 ((wrap64 ((wrap64 (65515 - (wrap64 ((wrap64 (Int.tmod a1 11)) * 4)))) - 2)) + t471) : Int).toNat 0)).bind fun bt478 => (if (wrap64 ((wrap64 ((wrap64 (65515 - (wrap64 ((wrap64 (Int.tmod a1 11)) * 4)))) - 2)) + t471)) > (wrap64 (65515 - (wrap64 ((wrap64 (Int.tmod a1 11)) * 4)))) then (if bt478.2 = 23 then (some ((bt478.1.length : Int) == 0)) else (none)) else (if bt478.2 = 0 then (some ((bt478.1.length : Int) == (wrap64 ((wrap64 ((wrap64 ((wrap64 ((wrap64 (65515 - (wrap64 ((wrap64 (Int.tmod a1 11)) * 4)))) - 2)) + t471)) + 20)) + (wrap64 ((wrap64 (Int.tmod a1 11)) * 4)))))) else (none)))) else (none)) else (none)) else (none)) else (none))) else (none)) = some r := H
 have A3 := Aside0.mk A30
 clear A30
 by_cases c4 : t470 = true
 ·subst c4
  have H1 : ((lychhelp_Place.f a0 5).bind fun t471 => (if 0 ≤ (wrap64 ((wrap64 (Int.tmod a1 11)) * 4)) then (if (wrap64 ((wrap64 (Int.tmod a1 11)) * 4) : Int).toNat ≤ 281474976710656 then (if 0 ≤ (wrap64 ((wrap64 ((wrap64 (65515 - (wrap64 ((wrap64 (Int.tmod a1 11)) * 4)))) - 2)) + t471)) then (if (wrap64 ((wrap64 ((wrap64 (65515 - (wrap64 ((wrap64 (Int.tmod a1 11)) * 4)))) - 2)) + t471) : Int).toNat ≤ 281474976710656 then ((ip_Bytes.f k 0 0 0 0 0 0 0 0 (List.replicate (wrap64 ((wrap64 (Int.tmod a1 11)) * 4) : Int).toNat 0) (List.replicate (wrap64 ((wrap64 ((wrap64 (65515 - (wrap64 ((wrap64 (Int.tmod a1 11)) * 4)))) - 2)) + t471) : Int).toNat 0)).bind fun bt478 => (if (wrap64 ((wrap64 ((wrap64 (65515 - (wrap64 ((wrap64 (Int.tmod a1 11)) * 4)))) - 2)) + t471)) > (wrap64 (65515 - (wrap64 ((wrap64 (Int.tmod a1 11)) * 4)))) then (if bt478.2 = 23 then (some ((bt478.1.length : Int) == 0)) else (none)) else (if bt478.2 = 0 then (some ((bt478.1.length : Int) == (wrap64 ((wrap64 ((wrap64 ((wrap64 ((wrap64 (65515 - (wrap64 ((wrap64 (Int.tmod a1 11)) * 4)))) - 2)) + t471)) + 20)) + (wrap64 ((wrap64 (Int.tmod a1 11)) * 4)))))) else (none)))) else (none)) else (none)) else (none)) else (none))) = some r := by rw [if_pos rfl] at H; exact H
  clear H
  have H := H1
  clear H1
  replace H := Option.bind_eq_some_iff.mp H
  obtain ⟨t471, A50, H⟩ := H
  replace H : (if 0 ≤ (wrap64 ((wrap64 (Int.tmod a1 11)) * 4)) then (if (wrap64 ((wrap64 (Int.tmod a1 11)) * 4) : Int).toNat ≤ 281474976710656 then (if 0 ≤ (wrap64 ((wrap64 ((wrap64 (65515 - (wrap64 ((wrap64 (Int.tmod a1 11)) * 4)))) - 2)) + t471)) then (if (wrap64 ((wrap64 ((wrap64 (65515 - (wrap64 ((wrap64 (Int.tmod a1 11)) * 4)))) - 2)) + t471) : Int).toNat ≤ 281474976710656 then ((ip_Bytes.f k 0 0 0 0 0 0 0 0 (List.replicate (wrap64 ((wrap64 (Int.tmod a1 11)) * 4) : Int).toNat 0) (List.replicate (wrap64 ((wrap64 ((wrap64 (65515 - (wrap64 ((wrap64 (Int.tmod a1 11)) * 4)))) - 2)) + t471) : Int).toNat 0)).bind fun bt478 => (if (wrap64 ((wrap64 ((wrap64 (65515 - (wrap64 ((wrap64 (Int.tmod a1 11)) * 4)))) - 2)) + t471)) > (wrap64 (65515 - (wrap64 ((wrap64 (Int.tmod a1 11)) * 4)))) then (if bt478.2 = 23 then (some ((bt478.1.length : Int) == 0)) else (none)) else (if bt478.2 = 0 then (some ((bt478.1.length : Int) == (wrap64 ((wrap64 ((wrap64 ((wrap64 ((wrap64 (65515 - (wrap64 ((wrap64 (Int.tmod a1 11)) * 4)))) - 2)) + t471)) + 20)) + (wrap64 ((wrap64 (Int.tmod a1 11)) * 4)))))) else (none)))) else (none)) else (none)) else (none)) else (none)) = some r := H
  have A5 := Aside0.mk A50
  clear A50
  obtain ⟨ji6, hji6⟩ : ∃ j_ : Int, (wrap64 ((wrap64 (Int.tmod a1 11)) * 4)) = j_ := ⟨_, rfl⟩
  replace H : (if 0 ≤ (ji6) then (if (ji6 : Int).toNat ≤ 281474976710656 then (if 0 ≤ (wrap64 ((wrap64 ((wrap64 (65515 - (ji6))) - 2)) + t471)) then (if (wrap64 ((wrap64 ((wrap64 (65515 - (ji6))) - 2)) + t471) : Int).toNat ≤ 281474976710656 then ((ip_Bytes.f k 0 0 0 0 0 0 0 0 (List.replicate (ji6 : Int).toNat 0) (List.replicate (wrap64 ((wrap64 ((wrap64 (65515 - (ji6))) - 2)) + t471) : Int).toNat 0)).bind fun bt478 => (if (wrap64 ((wrap64 ((wrap64 (65515 - (ji6))) - 2)) + t471)) > (wrap64 (65515 - (ji6))) then (if bt478.2 = 23 then (some ((bt478.1.length : Int) == 0)) else (none)) else (if bt478.2 = 0 then (some ((bt478.1.length : Int) == (wrap64 ((wrap64 ((wrap64 ((wrap64 ((wrap64 (65515 - (ji6))) - 2)) + t471)) + 20)) + (ji6))))) else (none)))) else (none)) else (none)) else (none)) else (none)) = some r := by first | (rw [hji6] at H; exact H) | (simp only [hji6] at H ⊢; exact H)
  (try rw [hji6] at A3)
  (try rw [hji6] at A5)
  have hji6w : (IntKind.i64.wrap ((wrap64 (Int.tmod a1 11)) * 4)) = ji6 := (i64_w _).trans hji6
  by_cases c7 : 0 ≤ (ji6)
  ·rw [if_pos c7] at H
   have c7b0 := eq_true c7
   have c7b1 : decide (0 ≤ (ji6)) = true := decide_eq_true c7
   clear c7
   by_cases c8 : (ji6 : Int).toNat ≤ 281474976710656
   ·rw [if_pos c8] at H
    have c8b0 := eq_true c8
    have c8b1 : decide ((ji6 : Int).toNat ≤ 281474976710656) = true := decide_eq_true c8
    clear c8
    obtain ⟨y472, hy472⟩ : ∃ y_ : List Int, y_ = (List.replicate (ji6 : Int).toNat 0) := ⟨_, rfl⟩
    replace H : (if 0 ≤ (wrap64 ((wrap64 ((wrap64 (65515 - (ji6))) - 2)) + t471)) then (if (wrap64 ((wrap64 ((wrap64 (65515 - (ji6))) - 2)) + t471) : Int).toNat ≤ 281474976710656 then ((ip_Bytes.f k 0 0 0 0 0 0 0 0 y472 (List.replicate (wrap64 ((wrap64 ((wrap64 (65515 - (ji6))) - 2)) + t471) : Int).toNat 0)).bind fun bt478 => (if (wrap64 ((wrap64 ((wrap64 (65515 - (ji6))) - 2)) + t471)) > (wrap64 (65515 - (ji6))) then (if bt478.2 = 23 then (some ((bt478.1.length : Int) == 0)) else (none)) else (if bt478.2 = 0 then (some ((bt478.1.length : Int) == (wrap64 ((wrap64 ((wrap64 ((wrap64 ((wrap64 (65515 - (ji6))) - 2)) + t471)) + 20)) + (ji6))))) else (none)))) else (none)) else (none)) = some r := by first | (rw [hy472]; with_reducible exact H) | (have H2_ := (Option.bind_some _ _).symm.trans H; rw [hy472]; with_reducible exact H2_) | (have H2_ := (Option.bind_some _ _).symm.trans H; with_reducible exact H2_) | with_reducible exact H | (rw [hy472]; exact H) | exact H
    have Ny472 := Aside0.mk hy472
    clear hy472
    obtain ⟨ji9, hji9⟩ : ∃ j_ : Int, (wrap64 ((wrap64 ((wrap64 (65515 - (ji6))) - 2)) + t471)) = j_ := ⟨_, rfl⟩
    replace H : (if 0 ≤ (ji9) then (if (ji9 : Int).toNat ≤ 281474976710656 then ((ip_Bytes.f k 0 0 0 0 0 0 0 0 y472 (List.replicate (ji9 : Int).toNat 0)).bind fun bt478 => (if (ji9) > (wrap64 (65515 - (ji6))) then (if bt478.2 = 23 then (some ((bt478.1.length : Int) == 0)) else (none)) else (if bt478.2 = 0 then (some ((bt478.1.length : Int) == (wrap64 ((wrap64 ((ji9) + 20)) + (ji6))))) else (none)))) else (none)) else (none)) = some r := by first | (rw [hji9] at H; exact H) | (simp only [hji9] at H ⊢; exact H)
    (try rw [hji9] at A3)
    (try rw [hji9] at A5)
    have hji9w : (IntKind.i64.wrap ((wrap64 ((wrap64 (65515 - (ji6))) - 2)) + t471)) = ji9 := (i64_w _).trans hji9
    by_cases c10 : 0 ≤ (ji9)
    ·rw [if_pos c10] at H
     have c10b0 := eq_true c10
     have c10b1 : decide (0 ≤ (ji9)) = true := decide_eq_true c10
     clear c10
     by_cases c11 : (ji9 : Int).toNat ≤ 281474976710656
     ·rw [if_pos c11] at H
      have c11b0 := eq_true c11
      have c11b1 : decide ((ji9 : Int).toNat ≤ 281474976710656) = true := decide_eq_true c11
      clear c11
      obtain ⟨y475, hy475⟩ : ∃ y_ : List Int, y_ = (List.replicate (ji9 : Int).toNat 0) := ⟨_, rfl⟩
      replace H : ((ip_Bytes.f k 0 0 0 0 0 0 0 0 y472 y475).bind fun bt478 => (if (ji9) > (wrap64 (65515 - (ji6))) then (if bt478.2 = 23 then (some ((bt478.1.length : Int) == 0)) else (none)) else (if bt478.2 = 0 then (some ((bt478.1.length : Int) == (wrap64 ((wrap64 ((ji9) + 20)) + (ji6))))) else (none)))) = some r := by first | (rw [hy475]; with_reducible exact H) | (have H2_ := (Option.bind_some _ _).symm.trans H; rw [hy475]; with_reducible exact H2_) | (have H2_ := (Option.bind_some _ _).symm.trans H; with_reducible exact H2_) | with_reducible exact H | (rw [hy475]; exact H) | exact H
      have Ny475 := Aside0.mk hy475
      clear hy475
      replace H := Option.bind_eq_some_iff.mp H
      obtain ⟨⟨t478, t481⟩, A120, H⟩ := H
      replace H : (if (ji9) > (wrap64 (65515 - (ji6))) then (if t481 = 23 then (some ((t478.length : Int) == 0)) else (none)) else (if t481 = 0 then (some ((t478.length : Int) == (wrap64 ((wrap64 ((ji9) + 20)) + (ji6))))) else (none))) = some r := H
      have A12 := Aside0.mk A120
      clear A120
      by_cases c13 : (ji9) > (wrap64 (65515 - (ji6)))
      ·rw [if_pos c13] at H
       have c13b0 : decide ((wrap64 (65515 - (ji6))) < (ji9)) = true := decide_eq_true c13
       clear c13
       by_cases c14 : t481 = 23
       ·rw [if_pos c14] at H
        have c14b0 : (t481 == 23) = true := beq_iff_eq.mpr c14
        have c14b1 : (t481 != 23) = false := bne_eq_false_iff_eq.mpr c14
        clear c14
        obtain rfl := Option.some.inj H
        go_enter Try.func6, Try.ntmps6
        try go_wp2_with (first | ((with_reducible refine gate_callee (f := 9) rfl ?_); refine goesL_ (some 8) rfl rfl Try.func9 (by kernel_rfl) rfl #[] rfl (by (try simp only [List.map_toArray, List.map_cons, List.map_nil]); first | done | rfl | (simp only [List.length_drop, List.length_take]; rfl) | (go_simp; done) | (simp [Act.eval, IntKind.signed]; done) | (simp [Act.eval, IntKind.signed]; rfl)) ?_; (with_reducible refine (lychlaw3_known.calls k  true _ A3.out).mono ?_); rintro e w15 ⟨rfl, hb⟩; refine ⟨_, rfl, ?_⟩; have n0_ := Aside0.mk (below_step (by repeat (first | (with_reducible first | exact HB.out | apply below_alloc | apply pw_below_drewN | apply below_drew1) | exact HB.out)) hb); clear HB; have HB := n0_; clear n0_; (try clear hb); (try clear hb2); (try clear hk); (try clear hi)) | ((with_reducible refine gate_callee (f := 18) rfl ?_); refine goesL_ (some 18) rfl rfl Try.func18 (by kernel_rfl) rfl #[.int .i64 a0, .int .i64 5] rfl (by (try simp only [List.map_toArray, List.map_cons, List.map_nil]); first | done | rfl | (simp only [List.length_drop, List.length_take]; rfl) | (go_simp; done) | (simp [Act.eval, IntKind.signed]; done) | (simp [Act.eval, IntKind.signed]; rfl)) ?_; (with_reducible refine (lychhelp_Place.calls a0 5 t471 _ A5.out).mono ?_); rintro e w' ⟨rfl, ⟨nd, rfl⟩⟩; refine ⟨_, rfl, ?_⟩))
        (try (rw [drewN_self w15]; generalize hq_ : World.drewN w15 _ = w15; have n0_ : Aside0 (Below w.heap.size w w15) := ⟨by rw [← hq_]; exact (by repeat (first | (with_reducible first | exact HB.out | apply below_alloc | apply pw_below_drewN | apply below_drew1) | exact HB.out))⟩; clear HB hq_; have HB := n0_; clear n0_))
        have n0_ := Aside0.mk (below_drew1 HB.out)
        clear HB
        have HB := n0_
        clear n0_
        refine start_ (n := 11) (S := fun w' => True) (ds := []) #[false, false, false, false, false, false, false, false, false, false, false] (by kernel_rfl) rfl rfl trivial (fun hHeld => ?_); refine with_tabW lychlaw3_IpGreat.tab5 lychlaw3_IpGreat.bits5 (fun HT_ HW_ => ?_)
        generalize w15.drew = w16 at HB hHeld ⊢
        refine pure_ (i := 0) (N := some 21) (v := ?_) (a' := ?_) #[true, false, false, false, false, false, false, false, false, false, false] rfl rfl (any_of HT_.out (by kernel_rfl)) (fun _ _ _ h => h) (Or.inl ⟨by rfl, ?_⟩) ?_ ?_
        rotate_left
        ·intro w'
         go_simp
         with_reducible rfl
        rotate_left
        ·simp only [Act.put, List.setIfInBounds_toArray, List.set_cons_zero, List.set_cons_succ, i64_w, i32_w]
         rfl
        refine pure_ (i := 2) (N := some 23) (v := ?_) (a' := ?_) #[true, false, true, false, false, false, false, false, false, false, false] rfl rfl (any_of HT_.out (by kernel_rfl)) (fun _ _ _ h => h) (Or.inl ⟨by rfl, ?_⟩) ?_ ?_
        rotate_left
        ·intro w'
         go_simp
         with_reducible rfl
        rotate_left
        ·simp only [Act.put, List.setIfInBounds_toArray, List.set_cons_zero, List.set_cons_succ, i64_w, i32_w]
         rfl
        refine join_ (σ := Value × Value) 7 #[true, true, true, true, false, false, false, false, false, false, false] (fun s_ => [(22, s_.1), (24, s_.2)]) (fun s_ w' => (Kd.R (Kd.int .u8) 5 w' w.heap.size (fun k_ => some k_ ≠ (s_.2 : Value).ownBlock) s_.1 y472) ∧ (Kd.R (Kd.int .u8) 5 w' w.heap.size (fun k_ => some k_ ≠ (s_.1 : Value).ownBlock) s_.2 y475) ∧ (Below w.heap.size w w')) ?_ ?_
        rotate_left
        ·intro hCont
         refine two_ (i := 1) (j := 3) (Ni := some 22) (Nj := some 24) #[true, true, true, false, false, false, false, false, false, false, false] #[true, false, true, true, false, false, false, false, false, false, false] rfl rfl rfl rfl (two_of HT_.out (by kernel_rfl)) (by decide) (by decide) (fun K hK => ?_) (fun K hK => ?_)
         ·skip
          refine Kd.R_make_step (Kd.int .u8) _ 5 (by rfl) (N := 22) rfl 22 _ _ rfl ji6 rfl rfl Try.underlying22 (.int .u8 0) 1 info5 rfl (by decide) (by omega) 0 (ok := fun _ => True) (okp := fun _ => True) rfl (fun _ hk => hk) trivial (of_decide_eq_true (by first | (with_reducible assumption) | assumption)) (Nat.le_trans (Nat.mul_le_mul_right _ (of_decide_eq_true (by first | (with_reducible assumption) | assumption) : ji6.toNat ≤ 281474976710656)) (by omega)) (Below.refl _ _) (Nat.le_refl _) ?_
          intro v473 w17 ho18 hb hg_ hnew_
          clear hg_ hnew_
          (first | rw [← Ny472.out] at ho18 | (simp only [Int.reduceToNat] at ho18; rw [← Ny472.out] at ho18))
          have n0_ := Aside0.mk (Kd.R_lower ho18 (below_size (by repeat (first | (with_reducible first | exact HB.out | apply below_alloc | apply pw_below_drewN | apply below_drew1) | exact HB.out))))
          have n1_ := Aside0.mk (below_step (by repeat (first | (with_reducible first | exact HB.out | apply below_alloc | apply pw_below_drewN | apply below_drew1) | exact HB.out)) hb)
          clear HB
          have HO474 := n0_
          have HB := n1_
          clear n0_ n1_
          clear hb ho18
          refine hK.out _ _ trivial (fun hHeld => ?_)
          clear hK K
          refine norm_ (a' := ?_) ?_ ?_
          rotate_left
          ·show Act.put _ (some 22) _ = _
           simp only [Act.put, List.setIfInBounds_toArray, List.set_cons_zero, List.set_cons_succ, i64_w, i32_w]
           rfl
          refine one_ (i := 3) (N := some 24) #[true, true, true, true, false, false, false, false, false, false, false] rfl rfl (one_of HT_.out (by kernel_rfl)) (by decide) (fun K hK => ?_)
          refine Kd.R_make_step (Kd.int .u8) _ 5 (by rfl) (N := 24) rfl 22 _ _ rfl ji9 rfl rfl Try.underlying22 (.int .u8 0) 1 info5 rfl (by decide) (by omega) 0 (ok := fun _ => True) (okp := fun _ => True) rfl (fun _ hk => hk) trivial (of_decide_eq_true (by first | (with_reducible assumption) | assumption)) (Nat.le_trans (Nat.mul_le_mul_right _ (of_decide_eq_true (by first | (with_reducible assumption) | assumption) : ji9.toNat ≤ 281474976710656)) (by omega)) (Below.refl _ _) (Nat.le_refl _) ?_
          intro v476 w19 ho20 hb hg_ hnew_
          clear hg_ hnew_
          (first | rw [← Ny475.out] at ho20 | (simp only [Int.reduceToNat] at ho20; rw [← Ny475.out] at ho20))
          have n0_ := Aside0.mk (Kd.R_elder' (by (with_reducible repeat (first | apply Kd.R_alloc | apply Kd.R_drewN | apply Kd.R_drew)); exact HO474.out) (Kd.R_base ho20) hb)
          have n1_ := Aside0.mk (Kd.R_lower (Kd.R_new' ho20 (Kd.R_lt (by (with_reducible repeat (first | apply Kd.R_alloc | apply Kd.R_drewN | apply Kd.R_drew)); exact HO474.out))) (below_size (by repeat (first | (with_reducible first | exact HB.out | apply below_alloc | apply pw_below_drewN | apply below_drew1) | exact HB.out))))
          have n2_ := Aside0.mk (below_step (by repeat (first | (with_reducible first | exact HB.out | apply below_alloc | apply pw_below_drewN | apply below_drew1) | exact HB.out)) hb)
          clear HO474
          clear HB
          have HO474 := n0_
          have HO477 := n1_
          have HB := n2_
          clear n0_ n1_ n2_
          clear hb ho20
          obtain ⟨Ao21, co21, eo21⟩ := Kd.R_slice HO477.out
          (first | subst eo21 | (injection eo21 with f1_ f2_ f3_; have f4_ := f1_.symm; have f5_ := f3_.symm; clear f1_ f2_ f3_; subst f4_; subst f5_))
          obtain ⟨Ao22, co22, eo22⟩ := Kd.R_slice HO474.out
          (first | subst eo22 | (injection eo22 with f1_ f2_ f3_; have f4_ := f1_.symm; have f5_ := f3_.symm; clear f1_ f2_ f3_; subst f4_; subst f5_))
          refine hK.out _ _ trivial (fun hHeld => ?_)
          clear hK K
          refine norm_ (a' := ?_) ?_ ?_
          rotate_left
          ·show Act.put _ (some 24) _ = _
           simp only [Act.put, List.setIfInBounds_toArray, List.set_cons_zero, List.set_cons_succ, i64_w, i32_w]
           rfl
          exact norm_ (by simp only [putAll, Act.put, List.setIfInBounds_toArray, List.set_cons_zero, List.set_cons_succ]) (hCont (.slice Ao22 y472.length co22, .slice Ao21 y475.length co21) _ ⟨(by (with_reducible repeat (first | apply Kd.R_alloc | apply Kd.R_drewN | apply Kd.R_drew)); exact Kd.R_mono HO474.out (fun _ hk => hk.2)), (by (with_reducible repeat (first | apply Kd.R_alloc | apply Kd.R_drewN | apply Kd.R_drew)); exact Kd.R_mono HO477.out (fun _ hk => hk.2)), (by repeat (first | (with_reducible first | exact HB.out | apply below_alloc | apply pw_below_drewN | apply below_drew1) | exact HB.out))⟩)
         ·skip
          refine Kd.R_make_step (Kd.int .u8) _ 5 (by rfl) (N := 24) rfl 22 _ _ rfl ji9 rfl rfl Try.underlying22 (.int .u8 0) 1 info5 rfl (by decide) (by omega) 0 (ok := fun _ => True) (okp := fun _ => True) rfl (fun _ hk => hk) trivial (of_decide_eq_true (by first | (with_reducible assumption) | assumption)) (Nat.le_trans (Nat.mul_le_mul_right _ (of_decide_eq_true (by first | (with_reducible assumption) | assumption) : ji9.toNat ≤ 281474976710656)) (by omega)) (Below.refl _ _) (Nat.le_refl _) ?_
          intro v476 w17 ho18 hb hg_ hnew_
          clear hg_ hnew_
          (first | rw [← Ny475.out] at ho18 | (simp only [Int.reduceToNat] at ho18; rw [← Ny475.out] at ho18))
          have n0_ := Aside0.mk (Kd.R_lower ho18 (below_size (by repeat (first | (with_reducible first | exact HB.out | apply below_alloc | apply pw_below_drewN | apply below_drew1) | exact HB.out))))
          have n1_ := Aside0.mk (below_step (by repeat (first | (with_reducible first | exact HB.out | apply below_alloc | apply pw_below_drewN | apply below_drew1) | exact HB.out)) hb)
          clear HB
          have HO477 := n0_
          have HB := n1_
          clear n0_ n1_
          clear hb ho18
          refine hK.out _ _ trivial (fun hHeld => ?_)
          clear hK K
          refine norm_ (a' := ?_) ?_ ?_
          rotate_left
          ·show Act.put _ (some 24) _ = _
           simp only [Act.put, List.setIfInBounds_toArray, List.set_cons_zero, List.set_cons_succ, i64_w, i32_w]
           rfl
          refine one_ (i := 1) (N := some 22) #[true, true, true, true, false, false, false, false, false, false, false] rfl rfl (one_of HT_.out (by kernel_rfl)) (by decide) (fun K hK => ?_)
          refine Kd.R_make_step (Kd.int .u8) _ 5 (by rfl) (N := 22) rfl 22 _ _ rfl ji6 rfl rfl Try.underlying22 (.int .u8 0) 1 info5 rfl (by decide) (by omega) 0 (ok := fun _ => True) (okp := fun _ => True) rfl (fun _ hk => hk) trivial (of_decide_eq_true (by first | (with_reducible assumption) | assumption)) (Nat.le_trans (Nat.mul_le_mul_right _ (of_decide_eq_true (by first | (with_reducible assumption) | assumption) : ji6.toNat ≤ 281474976710656)) (by omega)) (Below.refl _ _) (Nat.le_refl _) ?_
          intro v473 w19 ho20 hb hg_ hnew_
          clear hg_ hnew_
          (first | rw [← Ny472.out] at ho20 | (simp only [Int.reduceToNat] at ho20; rw [← Ny472.out] at ho20))
          have n0_ := Aside0.mk (Kd.R_elder' (by (with_reducible repeat (first | apply Kd.R_alloc | apply Kd.R_drewN | apply Kd.R_drew)); exact HO477.out) (Kd.R_base ho20) hb)
          have n1_ := Aside0.mk (Kd.R_lower (Kd.R_new' ho20 (Kd.R_lt (by (with_reducible repeat (first | apply Kd.R_alloc | apply Kd.R_drewN | apply Kd.R_drew)); exact HO477.out))) (below_size (by repeat (first | (with_reducible first | exact HB.out | apply below_alloc | apply pw_below_drewN | apply below_drew1) | exact HB.out))))
          have n2_ := Aside0.mk (below_step (by repeat (first | (with_reducible first | exact HB.out | apply below_alloc | apply pw_below_drewN | apply below_drew1) | exact HB.out)) hb)
          clear HO477
          clear HB
          have HO477 := n0_
          have HO474 := n1_
          have HB := n2_
          clear n0_ n1_ n2_
          clear hb ho20
          obtain ⟨Ao21, co21, eo21⟩ := Kd.R_slice HO477.out
          (first | subst eo21 | (injection eo21 with f1_ f2_ f3_; have f4_ := f1_.symm; have f5_ := f3_.symm; clear f1_ f2_ f3_; subst f4_; subst f5_))
          obtain ⟨Ao22, co22, eo22⟩ := Kd.R_slice HO474.out
          (first | subst eo22 | (injection eo22 with f1_ f2_ f3_; have f4_ := f1_.symm; have f5_ := f3_.symm; clear f1_ f2_ f3_; subst f4_; subst f5_))
          refine hK.out _ _ trivial (fun hHeld => ?_)
          clear hK K
          refine norm_ (a' := ?_) ?_ ?_
          rotate_left
          ·show Act.put _ (some 22) _ = _
           simp only [Act.put, List.setIfInBounds_toArray, List.set_cons_zero, List.set_cons_succ, i64_w, i32_w]
           rfl
          exact norm_ (by simp only [putAll, Act.put, List.setIfInBounds_toArray, List.set_cons_zero, List.set_cons_succ]) (hCont (.slice Ao22 y472.length co22, .slice Ao21 y475.length co21) _ ⟨(by (with_reducible repeat (first | apply Kd.R_alloc | apply Kd.R_drewN | apply Kd.R_drew)); exact Kd.R_mono HO474.out (fun _ hk => hk.2)), (by (with_reducible repeat (first | apply Kd.R_alloc | apply Kd.R_drewN | apply Kd.R_drew)); exact Kd.R_mono HO477.out (fun _ hk => hk.2)), (by repeat (first | (with_reducible first | exact HB.out | apply below_alloc | apply pw_below_drewN | apply below_drew1) | exact HB.out))⟩)
        rintro ⟨v473, v476⟩ w23 ⟨h0_, h1_, h2_⟩
        have n0_ : Aside0 (Kd.R (Kd.int .u8) 5 w23 w.heap.size (fun k_ => some k_ ≠ (v476 : Value).ownBlock) v473 y472) := ⟨h0_⟩
        have n1_ : Aside0 (Kd.R (Kd.int .u8) 5 w23 w.heap.size (fun k_ => some k_ ≠ (v473 : Value).ownBlock) v476 y475) := ⟨h1_⟩
        have n2_ : Aside0 (Below w.heap.size w w23) := ⟨h2_⟩
        clear HB
        clear h0_ h1_ h2_
        have HO474 := n0_
        have HO477 := n1_
        have HB := n2_
        clear n0_ n1_ n2_
        have hHeld := trivial
        obtain ⟨Ao24, co24, eo24⟩ := Kd.R_slice HO477.out
        (first | subst eo24 | (injection eo24 with f1_ f2_ f3_; have f4_ := f1_.symm; have f5_ := f3_.symm; clear f1_ f2_ f3_; subst f4_; subst f5_))
        obtain ⟨Ao25, co25, eo25⟩ := Kd.R_slice HO474.out
        (first | subst eo25 | (injection eo25 with f1_ f2_ f3_; have f4_ := f1_.symm; have f5_ := f3_.symm; clear f1_ f2_ f3_; subst f4_; subst f5_))
        refine norm_ (a' := ?_) ?_ ?_
        rotate_left
        ·simp only [putAll, Act.put, List.setIfInBounds_toArray, List.set_cons_zero, List.set_cons_succ]
         rfl
        refine pure_ (i := 4) (N := some 25) (v := ?_) (a' := ?_) #[true, true, true, true, true, false, false, false, false, false, false] rfl rfl (any_of HT_.out (by kernel_rfl)) (fun _ _ _ h => h) (Or.inl ⟨by rfl, ?_⟩) ?_ ?_
        rotate_left
        ·intro w'
         go_simp
         with_reducible rfl
        rotate_left
        ·simp only [Act.put, List.setIfInBounds_toArray, List.set_cons_zero, List.set_cons_succ, i64_w, i32_w]
         rfl
        refine one_ (i := 5) (N := some 26) #[true, true, true, true, true, true, false, false, false, false, false] rfl rfl (one_of HT_.out (by kernel_rfl)) (by decide) (fun K hK => ?_)
        refine goes_ Try.func15 (by kernel_rfl) rfl #[.agg #[.int .u8 0, .int .u8 0, .int .u8 0, .int .u16 0, .int .u8 0, .int .u16 0, .int .u32 0, .int .u32 0, .slice Ao25 y472.length co25, .slice Ao24 y475.length co24]] (by rfl) rfl rfl (by (try simp only [List.map_toArray, List.map_cons, List.map_nil]); first | done | rfl | (simp only [List.length_drop, List.length_take]; rfl) | (go_simp; done) | (simp [Act.eval, IntKind.signed]; done) | (simp [Act.eval, IntKind.signed]; rfl)) ?_
        with_reducible refine (ip_Bytes.calls k 0 0 0 0 0 0 0 0 _ _ y472 _ _ y475 t478 t481 _ ?side1 ?side2 ?side3 ?side4 A12.out).mono ?_
        (case side1 => repeat (first | exact (Kd.R_reads' HO474.out).2.2 | (with_reducible refine Kd.C_alloc ?_ _) | (with_reducible refine Kd.C_drewN ?_ _) | (with_reducible refine Kd.C_drew ?_)))
        (case side2 => exact (Kd.R_reads' HO474.out).2.1)
        (case side3 => repeat (first | exact (Kd.R_reads' HO477.out).2.2 | (with_reducible refine Kd.C_alloc ?_ _) | (with_reducible refine Kd.C_drewN ?_ _) | (with_reducible refine Kd.C_drew ?_)))
        (case side4 => exact (Kd.R_reads' HO477.out).2.1)
        rintro e w26 ⟨v479, rfl, ho0, hb⟩
        refine ⟨_, rfl, ?_⟩
        have n0_ := Aside0.mk (Kd.R_elder' (by (with_reducible repeat (first | apply Kd.R_alloc | apply Kd.R_drewN | apply Kd.R_drew)); exact HO474.out) (Kd.R_base ho0) hb)
        have n1_ := Aside0.mk (Kd.R_elder' (by (with_reducible repeat (first | apply Kd.R_alloc | apply Kd.R_drewN | apply Kd.R_drew)); exact HO477.out) (Kd.R_base ho0) hb)
        have n2_ := Aside0.mk (Kd.R_lower (Kd.R_new' (Kd.R_new' ho0 (Kd.R_lt (by (with_reducible repeat (first | apply Kd.R_alloc | apply Kd.R_drewN | apply Kd.R_drew)); exact HO474.out))) (Kd.R_lt (by (with_reducible repeat (first | apply Kd.R_alloc | apply Kd.R_drewN | apply Kd.R_drew)); exact HO477.out))) (below_size (by repeat (first | (with_reducible first | exact HB.out | apply below_alloc | apply pw_below_drewN | apply below_drew1) | exact HB.out))))
        have n3_ := Aside0.mk (below_step (by repeat (first | (with_reducible first | exact HB.out | apply below_alloc | apply pw_below_drewN | apply below_drew1) | exact HB.out)) hb)
        clear HO474
        clear HO477
        clear HB
        have HO474 := n0_
        have HO477 := n1_
        have HO480 := n2_
        have HB := n3_
        clear n0_ n1_ n2_ n3_
        (try clear hb)
        (try clear hb2)
        (try clear hk)
        (try clear hi)
        (try clear ho0)
        refine hK.out _ _ trivial (fun hHeld => ?_)
        clear hK K
        refine norm_ (a' := ?_) ?_ ?_
        rotate_left
        ·show Act.put _ (some 26) _ = _
         simp only [Act.put, List.setIfInBounds_toArray, List.set_cons_zero, List.set_cons_succ, i64_w, i32_w]
         rfl
        refine pure_ (i := 6) (N := some 20) (v := ?_) (a' := ?_) #[true, true, true, true, true, true, true, false, false, false, false] rfl rfl (any_of HT_.out (by kernel_rfl)) (fun _ _ _ h => h) (Or.inl ⟨by rfl, ?_⟩) ?_ ?_
        rotate_left
        ·intro w'
         go_simp
         with_reducible rfl
        rotate_left
        ·simp only [Act.put, List.setIfInBounds_toArray, List.set_cons_zero, List.set_cons_succ, i64_w, i32_w]
         rfl
        refine pure_ (i := 7) (N := some 27) (v := ?_) (a' := ?_) #[true, true, true, true, true, true, true, true, false, false, false] rfl rfl (any_of HT_.out (by kernel_rfl)) (fun _ _ _ h => h) (Or.inl ⟨by rfl, ?_⟩) ?_ ?_
        rotate_left
        ·intro w'
         go_simp
         with_reducible rfl
        rotate_left
        ·simp only [Act.put, List.setIfInBounds_toArray, List.set_cons_zero, List.set_cons_succ, i64_w, i32_w]
         rfl
        refine pure_ (i := 8) (N := some 28) (v := ?_) (a' := ?_) #[true, true, true, true, true, true, true, true, true, false, false] rfl rfl (any_of HT_.out (by kernel_rfl)) (fun _ _ _ h => h) (Or.inl ⟨by rfl, ?_⟩) ?_ ?_
        rotate_left
        ·intro w'
         go_simp
         with_reducible rfl
        rotate_left
        ·simp only [Act.put, List.setIfInBounds_toArray, List.set_cons_zero, List.set_cons_succ, i64_w, i32_w]
         rfl
        refine pure_ (i := 9) (N := some 6) (v := ?_) (a' := ?_) #[true, true, true, true, true, true, true, true, true, true, false] rfl rfl (any_of HT_.out (by kernel_rfl)) (fun _ _ _ h => h) (Or.inl ⟨by rfl, ?_⟩) ?_ ?_
        rotate_left
        ·intro w'
         go_simp
         with_reducible rfl
        rotate_left
        ·simp only [Act.put, List.setIfInBounds_toArray, List.set_cons_zero, List.set_cons_succ, i64_w, i32_w]
         rfl
        refine pure_ (i := 10) (N := some 7) (v := ?_) (a' := ?_) #[true, true, true, true, true, true, true, true, true, true, true] rfl rfl (any_of HT_.out (by kernel_rfl)) (fun _ _ _ h => h) (Or.inl ⟨by rfl, ?_⟩) ?_ ?_
        rotate_left
        ·intro w'
         go_simp
         with_reducible rfl
        rotate_left
        ·simp only [Act.put, List.setIfInBounds_toArray, List.set_cons_zero, List.set_cons_succ, i64_w, i32_w]
         rfl
        refine done_ (done_of HT_.out (by kernel_rfl)) ?_
        obtain ⟨Ao27, co27, eo27⟩ := Kd.R_slice HO480.out
        subst eo27
        try go_wp2
        go_ret
        exact ⟨by first | rfl | (simp [errW_none, errW_some] <;> rfl) | (simp only [← hji6, ← hji9]; first | rfl | (simp [errW_none, errW_some] <;> rfl)) | (simp [*, errW_none, errW_some] <;> rfl), by repeat (first | (with_reducible first | exact HB.out | apply below_alloc | apply pw_below_drewN | apply below_drew1) | exact HB.out)⟩
       ·rw [if_neg c14] at H
        exact absurd H (by simp)
      ·rw [if_neg c13] at H
       have c13b0 : decide ((wrap64 (65515 - (ji6))) < (ji9)) = false := decide_eq_false c13
       clear c13
       by_cases c28 : t481 = 0
       ·rw [if_pos c28] at H
        have c28b0 : (t481 == 0) = true := beq_iff_eq.mpr c28
        have c28b1 : (t481 != 0) = false := bne_eq_false_iff_eq.mpr c28
        clear c28
        obtain rfl := Option.some.inj H
        go_enter Try.func6, Try.ntmps6
        try go_wp2_with (first | ((with_reducible refine gate_callee (f := 9) rfl ?_); refine goesL_ (some 8) rfl rfl Try.func9 (by kernel_rfl) rfl #[] rfl (by (try simp only [List.map_toArray, List.map_cons, List.map_nil]); first | done | rfl | (simp only [List.length_drop, List.length_take]; rfl) | (go_simp; done) | (simp [Act.eval, IntKind.signed]; done) | (simp [Act.eval, IntKind.signed]; rfl)) ?_; (with_reducible refine (lychlaw3_known.calls k  true _ A3.out).mono ?_); rintro e w29 ⟨rfl, hb⟩; refine ⟨_, rfl, ?_⟩; have n0_ := Aside0.mk (below_step (by repeat (first | (with_reducible first | exact HB.out | apply below_alloc | apply pw_below_drewN | apply below_drew1) | exact HB.out)) hb); clear HB; have HB := n0_; clear n0_; (try clear hb); (try clear hb2); (try clear hk); (try clear hi)) | ((with_reducible refine gate_callee (f := 18) rfl ?_); refine goesL_ (some 18) rfl rfl Try.func18 (by kernel_rfl) rfl #[.int .i64 a0, .int .i64 5] rfl (by (try simp only [List.map_toArray, List.map_cons, List.map_nil]); first | done | rfl | (simp only [List.length_drop, List.length_take]; rfl) | (go_simp; done) | (simp [Act.eval, IntKind.signed]; done) | (simp [Act.eval, IntKind.signed]; rfl)) ?_; (with_reducible refine (lychhelp_Place.calls a0 5 t471 _ A5.out).mono ?_); rintro e w' ⟨rfl, ⟨nd, rfl⟩⟩; refine ⟨_, rfl, ?_⟩))
        (try (rw [drewN_self w29]; generalize hq_ : World.drewN w29 _ = w29; have n0_ : Aside0 (Below w.heap.size w w29) := ⟨by rw [← hq_]; exact (by repeat (first | (with_reducible first | exact HB.out | apply below_alloc | apply pw_below_drewN | apply below_drew1) | exact HB.out))⟩; clear HB hq_; have HB := n0_; clear n0_))
        have n0_ := Aside0.mk (below_drew1 HB.out)
        clear HB
        have HB := n0_
        clear n0_
        refine start_ (n := 11) (S := fun w' => True) (ds := []) #[false, false, false, false, false, false, false, false, false, false, false] (by kernel_rfl) rfl rfl trivial (fun hHeld => ?_); refine with_tabW lychlaw3_IpGreat.tab5 lychlaw3_IpGreat.bits5 (fun HT_ HW_ => ?_)
        generalize w29.drew = w30 at HB hHeld ⊢
        refine pure_ (i := 0) (N := some 21) (v := ?_) (a' := ?_) #[true, false, false, false, false, false, false, false, false, false, false] rfl rfl (any_of HT_.out (by kernel_rfl)) (fun _ _ _ h => h) (Or.inl ⟨by rfl, ?_⟩) ?_ ?_
        rotate_left
        ·intro w'
         go_simp
         with_reducible rfl
        rotate_left
        ·simp only [Act.put, List.setIfInBounds_toArray, List.set_cons_zero, List.set_cons_succ, i64_w, i32_w]
         rfl
        refine pure_ (i := 2) (N := some 23) (v := ?_) (a' := ?_) #[true, false, true, false, false, false, false, false, false, false, false] rfl rfl (any_of HT_.out (by kernel_rfl)) (fun _ _ _ h => h) (Or.inl ⟨by rfl, ?_⟩) ?_ ?_
        rotate_left
        ·intro w'
         go_simp
         with_reducible rfl
        rotate_left
        ·simp only [Act.put, List.setIfInBounds_toArray, List.set_cons_zero, List.set_cons_succ, i64_w, i32_w]
         rfl
        refine join_ (σ := Value × Value) 7 #[true, true, true, true, false, false, false, false, false, false, false] (fun s_ => [(22, s_.1), (24, s_.2)]) (fun s_ w' => (Kd.R (Kd.int .u8) 5 w' w.heap.size (fun k_ => some k_ ≠ (s_.2 : Value).ownBlock) s_.1 y472) ∧ (Kd.R (Kd.int .u8) 5 w' w.heap.size (fun k_ => some k_ ≠ (s_.1 : Value).ownBlock) s_.2 y475) ∧ (Below w.heap.size w w')) ?_ ?_
        rotate_left
        ·intro hCont
         refine two_ (i := 1) (j := 3) (Ni := some 22) (Nj := some 24) #[true, true, true, false, false, false, false, false, false, false, false] #[true, false, true, true, false, false, false, false, false, false, false] rfl rfl rfl rfl (two_of HT_.out (by kernel_rfl)) (by decide) (by decide) (fun K hK => ?_) (fun K hK => ?_)
         ·skip
          refine Kd.R_make_step (Kd.int .u8) _ 5 (by rfl) (N := 22) rfl 22 _ _ rfl ji6 rfl rfl Try.underlying22 (.int .u8 0) 1 info5 rfl (by decide) (by omega) 0 (ok := fun _ => True) (okp := fun _ => True) rfl (fun _ hk => hk) trivial (of_decide_eq_true (by first | (with_reducible assumption) | assumption)) (Nat.le_trans (Nat.mul_le_mul_right _ (of_decide_eq_true (by first | (with_reducible assumption) | assumption) : ji6.toNat ≤ 281474976710656)) (by omega)) (Below.refl _ _) (Nat.le_refl _) ?_
          intro v473 w31 ho32 hb hg_ hnew_
          clear hg_ hnew_
          (first | rw [← Ny472.out] at ho32 | (simp only [Int.reduceToNat] at ho32; rw [← Ny472.out] at ho32))
          have n0_ := Aside0.mk (Kd.R_lower ho32 (below_size (by repeat (first | (with_reducible first | exact HB.out | apply below_alloc | apply pw_below_drewN | apply below_drew1) | exact HB.out))))
          have n1_ := Aside0.mk (below_step (by repeat (first | (with_reducible first | exact HB.out | apply below_alloc | apply pw_below_drewN | apply below_drew1) | exact HB.out)) hb)
          clear HB
          have HO474 := n0_
          have HB := n1_
          clear n0_ n1_
          clear hb ho32
          refine hK.out _ _ trivial (fun hHeld => ?_)
          clear hK K
          refine norm_ (a' := ?_) ?_ ?_
          rotate_left
          ·show Act.put _ (some 22) _ = _
           simp only [Act.put, List.setIfInBounds_toArray, List.set_cons_zero, List.set_cons_succ, i64_w, i32_w]
           rfl
          refine one_ (i := 3) (N := some 24) #[true, true, true, true, false, false, false, false, false, false, false] rfl rfl (one_of HT_.out (by kernel_rfl)) (by decide) (fun K hK => ?_)
          refine Kd.R_make_step (Kd.int .u8) _ 5 (by rfl) (N := 24) rfl 22 _ _ rfl ji9 rfl rfl Try.underlying22 (.int .u8 0) 1 info5 rfl (by decide) (by omega) 0 (ok := fun _ => True) (okp := fun _ => True) rfl (fun _ hk => hk) trivial (of_decide_eq_true (by first | (with_reducible assumption) | assumption)) (Nat.le_trans (Nat.mul_le_mul_right _ (of_decide_eq_true (by first | (with_reducible assumption) | assumption) : ji9.toNat ≤ 281474976710656)) (by omega)) (Below.refl _ _) (Nat.le_refl _) ?_
          intro v476 w33 ho34 hb hg_ hnew_
          clear hg_ hnew_
          (first | rw [← Ny475.out] at ho34 | (simp only [Int.reduceToNat] at ho34; rw [← Ny475.out] at ho34))
          have n0_ := Aside0.mk (Kd.R_elder' (by (with_reducible repeat (first | apply Kd.R_alloc | apply Kd.R_drewN | apply Kd.R_drew)); exact HO474.out) (Kd.R_base ho34) hb)
          have n1_ := Aside0.mk (Kd.R_lower (Kd.R_new' ho34 (Kd.R_lt (by (with_reducible repeat (first | apply Kd.R_alloc | apply Kd.R_drewN | apply Kd.R_drew)); exact HO474.out))) (below_size (by repeat (first | (with_reducible first | exact HB.out | apply below_alloc | apply pw_below_drewN | apply below_drew1) | exact HB.out))))
          have n2_ := Aside0.mk (below_step (by repeat (first | (with_reducible first | exact HB.out | apply below_alloc | apply pw_below_drewN | apply below_drew1) | exact HB.out)) hb)
          clear HO474
          clear HB
          have HO474 := n0_
          have HO477 := n1_
          have HB := n2_
          clear n0_ n1_ n2_
          clear hb ho34
          obtain ⟨Ao35, co35, eo35⟩ := Kd.R_slice HO477.out
          (first | subst eo35 | (injection eo35 with f1_ f2_ f3_; have f4_ := f1_.symm; have f5_ := f3_.symm; clear f1_ f2_ f3_; subst f4_; subst f5_))
          obtain ⟨Ao36, co36, eo36⟩ := Kd.R_slice HO474.out
          (first | subst eo36 | (injection eo36 with f1_ f2_ f3_; have f4_ := f1_.symm; have f5_ := f3_.symm; clear f1_ f2_ f3_; subst f4_; subst f5_))
          refine hK.out _ _ trivial (fun hHeld => ?_)
          clear hK K
          refine norm_ (a' := ?_) ?_ ?_
          rotate_left
          ·show Act.put _ (some 24) _ = _
           simp only [Act.put, List.setIfInBounds_toArray, List.set_cons_zero, List.set_cons_succ, i64_w, i32_w]
           rfl
          exact norm_ (by simp only [putAll, Act.put, List.setIfInBounds_toArray, List.set_cons_zero, List.set_cons_succ]) (hCont (.slice Ao36 y472.length co36, .slice Ao35 y475.length co35) _ ⟨(by (with_reducible repeat (first | apply Kd.R_alloc | apply Kd.R_drewN | apply Kd.R_drew)); exact Kd.R_mono HO474.out (fun _ hk => hk.2)), (by (with_reducible repeat (first | apply Kd.R_alloc | apply Kd.R_drewN | apply Kd.R_drew)); exact Kd.R_mono HO477.out (fun _ hk => hk.2)), (by repeat (first | (with_reducible first | exact HB.out | apply below_alloc | apply pw_below_drewN | apply below_drew1) | exact HB.out))⟩)
         ·skip
          refine Kd.R_make_step (Kd.int .u8) _ 5 (by rfl) (N := 24) rfl 22 _ _ rfl ji9 rfl rfl Try.underlying22 (.int .u8 0) 1 info5 rfl (by decide) (by omega) 0 (ok := fun _ => True) (okp := fun _ => True) rfl (fun _ hk => hk) trivial (of_decide_eq_true (by first | (with_reducible assumption) | assumption)) (Nat.le_trans (Nat.mul_le_mul_right _ (of_decide_eq_true (by first | (with_reducible assumption) | assumption) : ji9.toNat ≤ 281474976710656)) (by omega)) (Below.refl _ _) (Nat.le_refl _) ?_
          intro v476 w31 ho32 hb hg_ hnew_
          clear hg_ hnew_
          (first | rw [← Ny475.out] at ho32 | (simp only [Int.reduceToNat] at ho32; rw [← Ny475.out] at ho32))
          have n0_ := Aside0.mk (Kd.R_lower ho32 (below_size (by repeat (first | (with_reducible first | exact HB.out | apply below_alloc | apply pw_below_drewN | apply below_drew1) | exact HB.out))))
          have n1_ := Aside0.mk (below_step (by repeat (first | (with_reducible first | exact HB.out | apply below_alloc | apply pw_below_drewN | apply below_drew1) | exact HB.out)) hb)
          clear HB
          have HO477 := n0_
          have HB := n1_
          clear n0_ n1_
          clear hb ho32
          refine hK.out _ _ trivial (fun hHeld => ?_)
          clear hK K
          refine norm_ (a' := ?_) ?_ ?_
          rotate_left
          ·show Act.put _ (some 24) _ = _
           simp only [Act.put, List.setIfInBounds_toArray, List.set_cons_zero, List.set_cons_succ, i64_w, i32_w]
           rfl
          refine one_ (i := 1) (N := some 22) #[true, true, true, true, false, false, false, false, false, false, false] rfl rfl (one_of HT_.out (by kernel_rfl)) (by decide) (fun K hK => ?_)
          refine Kd.R_make_step (Kd.int .u8) _ 5 (by rfl) (N := 22) rfl 22 _ _ rfl ji6 rfl rfl Try.underlying22 (.int .u8 0) 1 info5 rfl (by decide) (by omega) 0 (ok := fun _ => True) (okp := fun _ => True) rfl (fun _ hk => hk) trivial (of_decide_eq_true (by first | (with_reducible assumption) | assumption)) (Nat.le_trans (Nat.mul_le_mul_right _ (of_decide_eq_true (by first | (with_reducible assumption) | assumption) : ji6.toNat ≤ 281474976710656)) (by omega)) (Below.refl _ _) (Nat.le_refl _) ?_
          intro v473 w33 ho34 hb hg_ hnew_
          clear hg_ hnew_
          (first | rw [← Ny472.out] at ho34 | (simp only [Int.reduceToNat] at ho34; rw [← Ny472.out] at ho34))
          have n0_ := Aside0.mk (Kd.R_elder' (by (with_reducible repeat (first | apply Kd.R_alloc | apply Kd.R_drewN | apply Kd.R_drew)); exact HO477.out) (Kd.R_base ho34) hb)
          have n1_ := Aside0.mk (Kd.R_lower (Kd.R_new' ho34 (Kd.R_lt (by (with_reducible repeat (first | apply Kd.R_alloc | apply Kd.R_drewN | apply Kd.R_drew)); exact HO477.out))) (below_size (by repeat (first | (with_reducible first | exact HB.out | apply below_alloc | apply pw_below_drewN | apply below_drew1) | exact HB.out))))
          have n2_ := Aside0.mk (below_step (by repeat (first | (with_reducible first | exact HB.out | apply below_alloc | apply pw_below_drewN | apply below_drew1) | exact HB.out)) hb)
          clear HO477
          clear HB
          have HO477 := n0_
          have HO474 := n1_
          have HB := n2_
          clear n0_ n1_ n2_
          clear hb ho34
          obtain ⟨Ao35, co35, eo35⟩ := Kd.R_slice HO477.out
          (first | subst eo35 | (injection eo35 with f1_ f2_ f3_; have f4_ := f1_.symm; have f5_ := f3_.symm; clear f1_ f2_ f3_; subst f4_; subst f5_))
          obtain ⟨Ao36, co36, eo36⟩ := Kd.R_slice HO474.out
          (first | subst eo36 | (injection eo36 with f1_ f2_ f3_; have f4_ := f1_.symm; have f5_ := f3_.symm; clear f1_ f2_ f3_; subst f4_; subst f5_))
          refine hK.out _ _ trivial (fun hHeld => ?_)
          clear hK K
          refine norm_ (a' := ?_) ?_ ?_
          rotate_left
          ·show Act.put _ (some 22) _ = _
           simp only [Act.put, List.setIfInBounds_toArray, List.set_cons_zero, List.set_cons_succ, i64_w, i32_w]
           rfl
          exact norm_ (by simp only [putAll, Act.put, List.setIfInBounds_toArray, List.set_cons_zero, List.set_cons_succ]) (hCont (.slice Ao36 y472.length co36, .slice Ao35 y475.length co35) _ ⟨(by (with_reducible repeat (first | apply Kd.R_alloc | apply Kd.R_drewN | apply Kd.R_drew)); exact Kd.R_mono HO474.out (fun _ hk => hk.2)), (by (with_reducible repeat (first | apply Kd.R_alloc | apply Kd.R_drewN | apply Kd.R_drew)); exact Kd.R_mono HO477.out (fun _ hk => hk.2)), (by repeat (first | (with_reducible first | exact HB.out | apply below_alloc | apply pw_below_drewN | apply below_drew1) | exact HB.out))⟩)
        rintro ⟨v473, v476⟩ w37 ⟨h0_, h1_, h2_⟩
        have n0_ : Aside0 (Kd.R (Kd.int .u8) 5 w37 w.heap.size (fun k_ => some k_ ≠ (v476 : Value).ownBlock) v473 y472) := ⟨h0_⟩
        have n1_ : Aside0 (Kd.R (Kd.int .u8) 5 w37 w.heap.size (fun k_ => some k_ ≠ (v473 : Value).ownBlock) v476 y475) := ⟨h1_⟩
        have n2_ : Aside0 (Below w.heap.size w w37) := ⟨h2_⟩
        clear HB
        clear h0_ h1_ h2_
        have HO474 := n0_
        have HO477 := n1_
        have HB := n2_
        clear n0_ n1_ n2_
        have hHeld := trivial
        obtain ⟨Ao38, co38, eo38⟩ := Kd.R_slice HO477.out
        (first | subst eo38 | (injection eo38 with f1_ f2_ f3_; have f4_ := f1_.symm; have f5_ := f3_.symm; clear f1_ f2_ f3_; subst f4_; subst f5_))
        obtain ⟨Ao39, co39, eo39⟩ := Kd.R_slice HO474.out
        (first | subst eo39 | (injection eo39 with f1_ f2_ f3_; have f4_ := f1_.symm; have f5_ := f3_.symm; clear f1_ f2_ f3_; subst f4_; subst f5_))
        refine norm_ (a' := ?_) ?_ ?_
        rotate_left
        ·simp only [putAll, Act.put, List.setIfInBounds_toArray, List.set_cons_zero, List.set_cons_succ]
         rfl
        refine pure_ (i := 4) (N := some 25) (v := ?_) (a' := ?_) #[true, true, true, true, true, false, false, false, false, false, false] rfl rfl (any_of HT_.out (by kernel_rfl)) (fun _ _ _ h => h) (Or.inl ⟨by rfl, ?_⟩) ?_ ?_
        rotate_left
        ·intro w'
         go_simp
         with_reducible rfl
        rotate_left
        ·simp only [Act.put, List.setIfInBounds_toArray, List.set_cons_zero, List.set_cons_succ, i64_w, i32_w]
         rfl
        refine one_ (i := 5) (N := some 26) #[true, true, true, true, true, true, false, false, false, false, false] rfl rfl (one_of HT_.out (by kernel_rfl)) (by decide) (fun K hK => ?_)
        refine goes_ Try.func15 (by kernel_rfl) rfl #[.agg #[.int .u8 0, .int .u8 0, .int .u8 0, .int .u16 0, .int .u8 0, .int .u16 0, .int .u32 0, .int .u32 0, .slice Ao39 y472.length co39, .slice Ao38 y475.length co38]] (by rfl) rfl rfl (by (try simp only [List.map_toArray, List.map_cons, List.map_nil]); first | done | rfl | (simp only [List.length_drop, List.length_take]; rfl) | (go_simp; done) | (simp [Act.eval, IntKind.signed]; done) | (simp [Act.eval, IntKind.signed]; rfl)) ?_
        with_reducible refine (ip_Bytes.calls k 0 0 0 0 0 0 0 0 _ _ y472 _ _ y475 t478 t481 _ ?side1 ?side2 ?side3 ?side4 A12.out).mono ?_
        (case side1 => repeat (first | exact (Kd.R_reads' HO474.out).2.2 | (with_reducible refine Kd.C_alloc ?_ _) | (with_reducible refine Kd.C_drewN ?_ _) | (with_reducible refine Kd.C_drew ?_)))
        (case side2 => exact (Kd.R_reads' HO474.out).2.1)
        (case side3 => repeat (first | exact (Kd.R_reads' HO477.out).2.2 | (with_reducible refine Kd.C_alloc ?_ _) | (with_reducible refine Kd.C_drewN ?_ _) | (with_reducible refine Kd.C_drew ?_)))
        (case side4 => exact (Kd.R_reads' HO477.out).2.1)
        rintro e w40 ⟨v479, rfl, ho0, hb⟩
        refine ⟨_, rfl, ?_⟩
        have n0_ := Aside0.mk (Kd.R_elder' (by (with_reducible repeat (first | apply Kd.R_alloc | apply Kd.R_drewN | apply Kd.R_drew)); exact HO474.out) (Kd.R_base ho0) hb)
        have n1_ := Aside0.mk (Kd.R_elder' (by (with_reducible repeat (first | apply Kd.R_alloc | apply Kd.R_drewN | apply Kd.R_drew)); exact HO477.out) (Kd.R_base ho0) hb)
        have n2_ := Aside0.mk (Kd.R_lower (Kd.R_new' (Kd.R_new' ho0 (Kd.R_lt (by (with_reducible repeat (first | apply Kd.R_alloc | apply Kd.R_drewN | apply Kd.R_drew)); exact HO474.out))) (Kd.R_lt (by (with_reducible repeat (first | apply Kd.R_alloc | apply Kd.R_drewN | apply Kd.R_drew)); exact HO477.out))) (below_size (by repeat (first | (with_reducible first | exact HB.out | apply below_alloc | apply pw_below_drewN | apply below_drew1) | exact HB.out))))
        have n3_ := Aside0.mk (below_step (by repeat (first | (with_reducible first | exact HB.out | apply below_alloc | apply pw_below_drewN | apply below_drew1) | exact HB.out)) hb)
        clear HO474
        clear HO477
        clear HB
        have HO474 := n0_
        have HO477 := n1_
        have HO480 := n2_
        have HB := n3_
        clear n0_ n1_ n2_ n3_
        (try clear hb)
        (try clear hb2)
        (try clear hk)
        (try clear hi)
        (try clear ho0)
        refine hK.out _ _ trivial (fun hHeld => ?_)
        clear hK K
        refine norm_ (a' := ?_) ?_ ?_
        rotate_left
        ·show Act.put _ (some 26) _ = _
         simp only [Act.put, List.setIfInBounds_toArray, List.set_cons_zero, List.set_cons_succ, i64_w, i32_w]
         rfl
        refine pure_ (i := 6) (N := some 20) (v := ?_) (a' := ?_) #[true, true, true, true, true, true, true, false, false, false, false] rfl rfl (any_of HT_.out (by kernel_rfl)) (fun _ _ _ h => h) (Or.inl ⟨by rfl, ?_⟩) ?_ ?_
        rotate_left
        ·intro w'
         go_simp
         with_reducible rfl
        rotate_left
        ·simp only [Act.put, List.setIfInBounds_toArray, List.set_cons_zero, List.set_cons_succ, i64_w, i32_w]
         rfl
        refine pure_ (i := 7) (N := some 27) (v := ?_) (a' := ?_) #[true, true, true, true, true, true, true, true, false, false, false] rfl rfl (any_of HT_.out (by kernel_rfl)) (fun _ _ _ h => h) (Or.inl ⟨by rfl, ?_⟩) ?_ ?_
        rotate_left
        ·intro w'
         go_simp
         with_reducible rfl
        rotate_left
        ·simp only [Act.put, List.setIfInBounds_toArray, List.set_cons_zero, List.set_cons_succ, i64_w, i32_w]
         rfl
        refine pure_ (i := 8) (N := some 28) (v := ?_) (a' := ?_) #[true, true, true, true, true, true, true, true, true, false, false] rfl rfl (any_of HT_.out (by kernel_rfl)) (fun _ _ _ h => h) (Or.inl ⟨by rfl, ?_⟩) ?_ ?_
        rotate_left
        ·intro w'
         go_simp
         with_reducible rfl
        rotate_left
        ·simp only [Act.put, List.setIfInBounds_toArray, List.set_cons_zero, List.set_cons_succ, i64_w, i32_w]
         rfl
        refine pure_ (i := 9) (N := some 6) (v := ?_) (a' := ?_) #[true, true, true, true, true, true, true, true, true, true, false] rfl rfl (any_of HT_.out (by kernel_rfl)) (fun _ _ _ h => h) (Or.inl ⟨by rfl, ?_⟩) ?_ ?_
        rotate_left
        ·intro w'
         go_simp
         with_reducible rfl
        rotate_left
        ·simp only [Act.put, List.setIfInBounds_toArray, List.set_cons_zero, List.set_cons_succ, i64_w, i32_w]
         rfl
        refine pure_ (i := 10) (N := some 7) (v := ?_) (a' := ?_) #[true, true, true, true, true, true, true, true, true, true, true] rfl rfl (any_of HT_.out (by kernel_rfl)) (fun _ _ _ h => h) (Or.inl ⟨by rfl, ?_⟩) ?_ ?_
        rotate_left
        ·intro w'
         go_simp
         with_reducible rfl
        rotate_left
        ·simp only [Act.put, List.setIfInBounds_toArray, List.set_cons_zero, List.set_cons_succ, i64_w, i32_w]
         rfl
        refine done_ (done_of HT_.out (by kernel_rfl)) ?_
        obtain ⟨Ao41, co41, eo41⟩ := Kd.R_slice HO480.out
        subst eo41
        try go_wp2
        go_ret
        exact ⟨by first | rfl | (simp [errW_none, errW_some] <;> rfl) | (simp only [← hji6, ← hji9]; first | rfl | (simp [errW_none, errW_some] <;> rfl)) | (simp [*, errW_none, errW_some] <;> rfl), by repeat (first | (with_reducible first | exact HB.out | apply below_alloc | apply pw_below_drewN | apply below_drew1) | exact HB.out)⟩
       ·rw [if_neg c28] at H
        exact absurd H (by simp)
     ·rw [if_neg c11] at H
      exact absurd H (by simp)
    ·rw [if_neg c10] at H
     exact absurd H (by simp)
   ·rw [if_neg c8] at H
    exact absurd H (by simp)
  ·rw [if_neg c7] at H
   exact absurd H (by simp)
 ·replace c4 := Bool.eq_false_iff.mpr c4
  subst c4
  have H1 : (none) = some r := by rw [if_neg (show ¬ (false = true) by decide)] at H; exact H
  clear H
  have H := H1
  clear H1
  exact absurd H (by simp)

/-- THE ONE PURE STATEMENT of lychlaw3_IpGreat: yours. -/
def lychlaw3_IpGreat.Pure : Prop := ∀ (a0 : Int) (a1 : Int), (Lit.int .i64 a0).wf = true → (Lit.int .u8 a1).wf = true → ∃ k, lychlaw3_IpGreat.f k a0 a1 = some true
theorem lychlaw3_IpGreat.walk (P : lychlaw3_IpGreat.Pure) (a0 : Int) (a1 : Int) (w : World) (w0 : (Lit.int .i64 a0).wf = true) (w1 : (Lit.int .u8 a1).wf = true) :
  Calls Try.prog 6 #[.int .i64 a0, .int .u8 a1] w fun e w' => e = .returned (.bool true) ∧ Below w.heap.size w w' := by
 obtain ⟨k, h⟩ := P a0 a1 w0 w1
 refine (lychlaw3_IpGreat.calls k a0 a1 true w h).mono ?_
 rintro e w' ⟨rfl, hd⟩
 exact ⟨rfl, hd⟩

end Go.Proofs.Ytmlmiiejifhfeaa.PA
