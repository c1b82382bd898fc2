/- Texts of this claim, merged: PBx53, RwLk, PBx54, RwPt0, RwLookV, RwLkI, RwLkB, RwPtI, RwLkU, RwLkT, RwLook, RwLookL, RwPtU, RwPtT, RwPtd. -/
import Derived.Test.YtkmimamminddiaaZqb
import Derived.Test.YtkmimamminddiaaZqc
import Derived.Deep.Cut
import Derived.Deep.CutRange
import Derived.Deep.CutBlock
import Derived.Deep.WholeRow
set_option maxHeartbeats 40000000
set_option maxRecDepth 100000
set_option linter.unusedVariables false
set_option linter.unusedSimpArgs false
namespace Go.Proofs.Ytkmimamminddiaa.PB
open Go.RowKit Go.Proofs.YtkmimamminddiaaW.PrintWords Go.Proofs.YtkmimamminddiaaW.PrintLast Go.Proofs.YtkmimamminddiaaW.PrintMore
attribute [local go_sem] max2_int min2_int max_two min_two max_three min_three max_four min_four
def rewrite_inner.f (k : Nat) (l0 : List Int) : Option ((List (S65)) × Bool) := (rewrite_within.f k l0).bind fun bt694 => (if bt694.2 = true then (if 0 <= bt694.1 then (if bt694.1 <= (l0.length : Int) then ((rewrite_two.f (l0.drop (bt694.1 : Int).toNat)).bind fun t697 => (if 0 <= (wrap64 (bt694.1 + 2)) then (if (wrap64 (bt694.1 + 2)) <= (l0.length : Int) then ((rewrite_two.f (l0.drop ((wrap64 (bt694.1 + 2)) : Int).toNat)).bind fun t699 => (if 9 < (l0.length : Int) then (if (rd l0 9) = 1 then (if 0 <= (wrap64 (bt694.1 + 4)) then (if (wrap64 (bt694.1 + 4)) <= (l0.length : Int) then ((rewrite_two.f (l0.drop ((wrap64 (bt694.1 + 4)) : Int).toNat)).bind fun t702 => (if 12 <= (l0.length : Int) then ((rewrite_four.f (l0.drop 12)).bind fun t704 => (if 16 <= (l0.length : Int) then ((rewrite_four.f (l0.drop 16)).bind fun t706 => (some ((([(⟨t704, t702⟩ : S65), (⟨t706, t702⟩ : S65)] : List (S65))), true))) else (none))) else (none))) else (none)) else (none)) else (if 12 <= (l0.length : Int) then ((rewrite_four.f (l0.drop 12)).bind fun t711 => (if 16 <= (l0.length : Int) then ((rewrite_four.f (l0.drop 16)).bind fun t713 => (some ((([(⟨t711, t697⟩ : S65), (⟨t713, t699⟩ : S65)] : List (S65))), true))) else (none))) else (none))) else (none))) else (none)) else (none))) else (none)) else (none)) else (some (([] : List (S65)), false)))
def rewrite_inner.T4 : Bool × List (List Nat × List Nat) := (true, [([], []), ([], []), ([0, 1], [0, 1]), ([2], [2]), ([], []), ([], []), ([5], [5]), ([4, 6], [4, 6]), ([7, 3], [7]), ([3, 8, 0, 1, 2, 3], [3]), ([8, 9, 0, 1, 2, 3, 4, 5, 6, 7, 8, 9], [8])])
def rewrite_inner.B4 : List Nat := [0, 0, 3, 7, 0, 0, 32, 112, 255, 511, 1023]
theorem rewrite_inner.tab4 : rtab .any (opsOf Try.f104 4) = rewrite_inner.T4 := by kernel_rfl
theorem rewrite_inner.bits4 : waitsOk rewrite_inner.T4.2 rewrite_inner.B4 = true := by kernel_rfl
def rewrite_inner.T8 : Bool × List (List Nat × List Nat) := (true, [([], []), ([0], [0]), ([1], [1]), ([], []), ([2, 3], [2, 3]), ([], []), ([5], [5]), ([6, 2], [6]), ([], []), ([7, 8], [7, 8]), ([4, 9], [4, 9]), ([10, 7, 0, 1, 2, 3, 4, 5, 6, 7, 8, 9, 10], [10]), ([11, 0, 1, 2, 3, 4, 5, 6, 7, 8, 9, 10, 11], [])])
def rewrite_inner.B8 : List Nat := [0, 1, 3, 0, 15, 0, 32, 103, 0, 487, 1023, 2047, 4095]
theorem rewrite_inner.tab8 : rtab .any (opsOf Try.f104 8) = rewrite_inner.T8 := by kernel_rfl
theorem rewrite_inner.bits8 : waitsOk rewrite_inner.T8.2 rewrite_inner.B8 = true := by kernel_rfl
theorem rewrite_inner.calls (k : Nat) (A0 : Option Addr) (c0 : Nat) (l0 : List Int) (r1 : List (S65)) (r2 : Bool) (w : World) (hr0 : Kd.C (Kd.int .u8) w A0 l0.length l0) (hc0 : l0.length <= c0) (h : rewrite_inner.f k l0 = some (r1, r2)) :
  Calls Try.prog 104 #[.slice A0 l0.length c0] w fun e w' => ∃ v0_ : Value, e = .returned (.tuple #[v0_, .bool r2]) /\ Kd.R k65 65 w' w.heap.size (fun _ => True) v0_ r1 /\ Below w.heap.size w w' := by
 have hu65 := Try.underlying65; have HR0 := Aside0.mk hr0; have HC0 := Aside0.mk hc0; clear hr0 hc0; have HB := Aside0.mk (Below.refl w.heap.size w)
 have H : ((rewrite_within.f k l0).bind fun bt694 => (if bt694.2 = true then (if 0 <= bt694.1 then (if bt694.1 <= (l0.length : Int) then ((rewrite_two.f (l0.drop (bt694.1 : Int).toNat)).bind fun t697 => (if 0 <= (wrap64 (bt694.1 + 2)) then (if (wrap64 (bt694.1 + 2)) <= (l0.length : Int) then ((rewrite_two.f (l0.drop ((wrap64 (bt694.1 + 2)) : Int).toNat)).bind fun t699 => (if 9 < (l0.length : Int) then (if (rd l0 9) = 1 then (if 0 <= (wrap64 (bt694.1 + 4)) then (if (wrap64 (bt694.1 + 4)) <= (l0.length : Int) then ((rewrite_two.f (l0.drop ((wrap64 (bt694.1 + 4)) : Int).toNat)).bind fun t702 => (if 12 <= (l0.length : Int) then ((rewrite_four.f (l0.drop 12)).bind fun t704 => (if 16 <= (l0.length : Int) then ((rewrite_four.f (l0.drop 16)).bind fun t706 => (some ((([(⟨t704, t702⟩ : S65), (⟨t706, t702⟩ : S65)] : List (S65))), true))) else (none))) else (none))) else (none)) else (none)) else (if 12 <= (l0.length : Int) then ((rewrite_four.f (l0.drop 12)).bind fun t711 => (if 16 <= (l0.length : Int) then ((rewrite_four.f (l0.drop 16)).bind fun t713 => (some ((([(⟨t711, t697⟩ : S65), (⟨t713, t699⟩ : S65)] : List (S65))), true))) else (none))) else (none))) else (none))) else (none)) else (none))) else (none)) else (none)) else (some (([] : List (S65)), false)))) = some (r1, r2) := h
 clear h; replace H := Option.bind_eq_some_iff.mp H; obtain ⟨⟨t694, t695⟩, A20, H⟩ := H
 (try dsimp -simprocs only at H)
 have A2 := Aside0.mk A20; clear A20
 by_cases c3 : t695 = true
 ·subst c3
  have H1 : (if 0 <= t694 then (if t694 <= (l0.length : Int) then ((rewrite_two.f (l0.drop (t694 : Int).toNat)).bind fun t697 => (if 0 <= (wrap64 (t694 + 2)) then (if (wrap64 (t694 + 2)) <= (l0.length : Int) then ((rewrite_two.f (l0.drop ((wrap64 (t694 + 2)) : Int).toNat)).bind fun t699 => (if 9 < (l0.length : Int) then (if (rd l0 9) = 1 then (if 0 <= (wrap64 (t694 + 4)) then (if (wrap64 (t694 + 4)) <= (l0.length : Int) then ((rewrite_two.f (l0.drop ((wrap64 (t694 + 4)) : Int).toNat)).bind fun t702 => (if 12 <= (l0.length : Int) then ((rewrite_four.f (l0.drop 12)).bind fun t704 => (if 16 <= (l0.length : Int) then ((rewrite_four.f (l0.drop 16)).bind fun t706 => (some ((([(⟨t704, t702⟩ : S65), (⟨t706, t702⟩ : S65)] : List (S65))), true))) else (none))) else (none))) else (none)) else (none)) else (if 12 <= (l0.length : Int) then ((rewrite_four.f (l0.drop 12)).bind fun t711 => (if 16 <= (l0.length : Int) then ((rewrite_four.f (l0.drop 16)).bind fun t713 => (some ((([(⟨t711, t697⟩ : S65), (⟨t713, t699⟩ : S65)] : List (S65))), true))) else (none))) else (none))) else (none))) else (none)) else (none))) else (none)) else (none)) = some (r1, r2) := by rw [if_pos rfl] at H; exact H
  clear H; have H := H1; clear H1
  by_cases c4 : 0 <= t694
  ·rw [if_pos c4] at H
   have c4b0 := eq_true c4; have c4b1 : decide (0 <= t694) = true := decide_eq_true c4; clear c4
   by_cases c5 : t694 <= (l0.length : Int)
   ·rw [if_pos c5] at H
    have c5b0 := eq_true c5; have c5b1 : decide (t694 <= (l0.length : Int)) = true := decide_eq_true c5; clear c5; replace H := Option.bind_eq_some_iff.mp H; obtain ⟨t697, A60, H⟩ := H
    (try dsimp -simprocs only at H)
    have A6 := Aside0.mk A60; clear A60; obtain ⟨ji7, hji7⟩ : ∃ j_ : Int, (wrap64 (t694 + 2)) = j_ := ⟨_, rfl⟩
    replace H : (if 0 <= (ji7) then (if (ji7) <= (l0.length : Int) then ((rewrite_two.f (l0.drop ((ji7) : Int).toNat)).bind fun t699 => (if 9 < (l0.length : Int) then (if (rd l0 9) = 1 then (if 0 <= (wrap64 (t694 + 4)) then (if (wrap64 (t694 + 4)) <= (l0.length : Int) then ((rewrite_two.f (l0.drop ((wrap64 (t694 + 4)) : Int).toNat)).bind fun t702 => (if 12 <= (l0.length : Int) then ((rewrite_four.f (l0.drop 12)).bind fun t704 => (if 16 <= (l0.length : Int) then ((rewrite_four.f (l0.drop 16)).bind fun t706 => (some ((([(⟨t704, t702⟩ : S65), (⟨t706, t702⟩ : S65)] : List (S65))), true))) else (none))) else (none))) else (none)) else (none)) else (if 12 <= (l0.length : Int) then ((rewrite_four.f (l0.drop 12)).bind fun t711 => (if 16 <= (l0.length : Int) then ((rewrite_four.f (l0.drop 16)).bind fun t713 => (some ((([(⟨t711, t697⟩ : S65), (⟨t713, t699⟩ : S65)] : List (S65))), true))) else (none))) else (none))) else (none))) else (none)) else (none)) = some (r1, r2) := by first | (rw [hji7] at H; exact H) | (simp only [hji7] at H |-; exact H)
    (try rw [hji7] at A2)
    (try rw [hji7] at A6)
    have hji7w : (IntKind.i64.wrap (t694 + 2)) = ji7 := (i64_w _).trans hji7
    by_cases c8 : 0 <= (ji7)
    ·rw [if_pos c8] at H
     have c8b0 := eq_true c8; have c8b1 : decide (0 <= (ji7)) = true := decide_eq_true c8; clear c8
     by_cases c9 : (ji7) <= (l0.length : Int)
     ·rw [if_pos c9] at H
      have c9b0 := eq_true c9; have c9b1 : decide ((ji7) <= (l0.length : Int)) = true := decide_eq_true c9; clear c9; replace H := Option.bind_eq_some_iff.mp H; obtain ⟨t699, A100, H⟩ := H
      (try dsimp -simprocs only at H)
      have A10 := Aside0.mk A100; clear A100
      by_cases c11 : 9 < (l0.length : Int)
      ·rw [if_pos c11] at H
       have c11b0 : decide (9 < (l0.length : Int)) = true := decide_eq_true c11; have c11b1 : decide (9 < l0.length) = true := decide_eq_true (by omega); clear c11
       by_cases c12 : (rd l0 9) = 1
       ·rw [if_pos c12] at H
        have c12b0 : ((rd l0 9) == 1) = true := beq_iff_eq.mpr c12; have c12b1 : ((rd l0 9) != 1) = false := bne_eq_false_iff_eq.mpr c12; clear c12; obtain ⟨ji13, hji13⟩ : ∃ j_ : Int, (wrap64 (t694 + 4)) = j_ := ⟨_, rfl⟩
        replace H : (if 0 <= (ji13) then (if (ji13) <= (l0.length : Int) then ((rewrite_two.f (l0.drop ((ji13) : Int).toNat)).bind fun t702 => (if 12 <= (l0.length : Int) then ((rewrite_four.f (l0.drop 12)).bind fun t704 => (if 16 <= (l0.length : Int) then ((rewrite_four.f (l0.drop 16)).bind fun t706 => (some ((([(⟨t704, t702⟩ : S65), (⟨t706, t702⟩ : S65)] : List (S65))), true))) else (none))) else (none))) else (none)) else (none)) = some (r1, r2) := by first | (rw [hji13] at H; exact H) | (simp only [hji13] at H |-; exact H)
        (try rw [hji13] at A2)
        (try rw [hji13] at A6)
        (try rw [hji13] at A10)
        have hji13w : (IntKind.i64.wrap (t694 + 4)) = ji13 := (i64_w _).trans hji13
        by_cases c14 : 0 <= (ji13)
        ·rw [if_pos c14] at H
         have c14b0 := eq_true c14; have c14b1 : decide (0 <= (ji13)) = true := decide_eq_true c14; clear c14
         by_cases c15 : (ji13) <= (l0.length : Int)
         ·rw [if_pos c15] at H
          have c15b0 := eq_true c15; have c15b1 : decide ((ji13) <= (l0.length : Int)) = true := decide_eq_true c15; clear c15; replace H := Option.bind_eq_some_iff.mp H; obtain ⟨t702, A160, H⟩ := H
          (try dsimp -simprocs only at H)
          have A16 := Aside0.mk A160; clear A160
          by_cases c17 : 12 <= (l0.length : Int)
          ·rw [if_pos c17] at H
           have c17b0 := eq_true c17; have c17b1 : decide (12 <= (l0.length : Int)) = true := decide_eq_true c17; clear c17; replace H := Option.bind_eq_some_iff.mp H; obtain ⟨t704, A180, H⟩ := H
           (try dsimp -simprocs only at H)
           have A18 := Aside0.mk A180; clear A180
           by_cases c19 : 16 <= (l0.length : Int)
           ·rw [if_pos c19] at H
            have c19b0 := eq_true c19; have c19b1 : decide (16 <= (l0.length : Int)) = true := decide_eq_true c19; clear c19; replace H := Option.bind_eq_some_iff.mp H; obtain ⟨t706, A200, H⟩ := H
            (try dsimp -simprocs only at H)
            have A20 := Aside0.mk A200; clear A200; obtain ⟨y707, hy707⟩ : ∃ y_ : List (S65), y_ = (([(⟨t704, t702⟩ : S65), (⟨t706, t702⟩ : S65)] : List (S65))) := ⟨_, rfl⟩
            rw [<- hy707] at H
            have Ny707 := Aside0.mk hy707; clear hy707; simp only [Option.some.injEq, Prod.mk.injEq] at H
            obtain ⟨rfl, rfl⟩ := H
            go_enter Try.func104, Try.ntmps104
            try go_wp2_with (first | ((with_reducible refine gate_callee (f := 86) rfl ?_); refine gL 10 Try.func86 #[.slice A0 l0.length c0] ?_; (with_reducible refine (rewrite_within.calls k _ _ l0 t694 true _ ?side1 ?side2 A2.out).mono ?_); (case side1 => repeat (first | exact HR0.out | (with_reducible refine Kd.C_alloc ?_ _) | (with_reducible refine Kd.C_drewN ?_ _) | (with_reducible refine Kd.C_drew ?_))); (case side2 => exact HC0.out); rintro e w21 ⟨rfl, hb⟩; refine ⟨_, rfl, ?_⟩; have n0_ := Aside0.mk (below_step (bz HB) hb); clear HB; have HB := n0_; clear n0_; (try clear hb); (try clear hb2); (try clear hk); (try clear hi)))
            have n0_ := Aside0.mk (below_drew1 HB.out); clear HB; have HB := n0_; clear n0_; obtain ⟨i023, hi023, _, hsz23, _⟩ := info_parts info5; obtain ⟨A23, hcut23, hA23, hC23⟩ := print_drop_of (P := Try.prog) (Value.int .u8) 0 23 5 .i64 Try.underlying23 hi023 hsz23 A0 c0 l0 t694 odt odt HC0.out; have HR696 := Aside0.mk (Kd.C_of_reads (h1 := fun _ => rfl) (hA23 _ (Kd.reads_of_C HR0.out))); have HC696 := Aside0.mk hC23; clear hA23 hC23 hi023 hsz23; obtain ⟨i024, hi024, _, hsz24, _⟩ := info_parts info5
            obtain ⟨A24, hcut24, hA24, hC24⟩ := print_drop_of (P := Try.prog) (Value.int .u8) 0 23 5 .i64 Try.underlying23 hi024 hsz24 A0 c0 l0 (ji7) odt odt HC0.out; have HR698 := Aside0.mk (Kd.C_of_reads (h1 := fun _ => rfl) (hA24 _ (Kd.reads_of_C HR0.out))); have HC698 := Aside0.mk hC24; clear hA24 hC24 hi024 hsz24; refine start_ (n := 11) (S := fun w' => True) (ds := []) #[false, false, false, false, false, false, false, false, false, false, false] (by kernel_rfl) rfl rfl trivial (fun hHeld => ?_); refine with_tabW rewrite_inner.tab4 rewrite_inner.bits4 (fun HT_ HW_ => ?_); generalize w21.drew = w22 at HB HR696 HR698 hHeld |-
            refine pz 0 15 HT_ ?_; refine pz 1 16 HT_ ?_; refine pz 2 17 HT_ ?_; refine pz 4 19 HT_ ?_; refine pz 5 20 HT_ ?_; refine pz 6 21 HT_ ?_; refine pz 7 22 HT_ ?_; refine oz 3 (some 18) HT_ (fun K hK => ?_); refine goes_ Try.func87 (by kernel_rfl) rfl #[.slice A23 (l0.drop (t694 : Int).toNat).length (c0 - t694.toNat)] (by rfl) rfl rfl (by (try simp only [List.map_toArray, List.map_cons, List.map_nil]); first | done | (rw [show (l0.drop (t694 : Int).toNat).length = (l0.length - t694.toNat) from List.length_drop] <;> rfl) | rfl | (simp only [List.length_drop, List.length_take]; rfl) | (go_simp; done) | (simp [Act.eval, IntKind.signed]; done) | (simp [Act.eval, IntKind.signed]; rfl)) ?_
            with_reducible refine (rewrite_two.calls _ _ (l0.drop (t694 : Int).toNat) t697 _ ?side1 ?side2 A6.out).mono ?_
            (case side1 => exact Kd.C_below HR696.out (bz HB))
            (case side2 => exact HC696.out)
            rintro e w' ⟨rfl, ⟨nd, rfl⟩⟩; refine ⟨_, rfl, ?_⟩; refine hK.out _ _ trivial (fun hHeld => ?_); clear hK K; refine nz 18 ?_; refine oz 8 (some 23) HT_ (fun K hK => ?_); refine goes_ Try.func87 (by kernel_rfl) rfl #[.slice A24 (l0.drop ((ji7) : Int).toNat).length (c0 - (ji7).toNat)] (by rfl) rfl rfl (by (try simp only [List.map_toArray, List.map_cons, List.map_nil]); first | done | (rw [show (l0.drop ((ji7) : Int).toNat).length = (l0.length - (ji7).toNat) from List.length_drop] <;> rfl) | (simp only [hji7]; rfl) | rfl | (simp only [List.length_drop, List.length_take]; rfl) | (go_simp; done) | (simp [Act.eval, IntKind.signed]; done) | (simp [Act.eval, IntKind.signed]; rfl)) ?_
            with_reducible refine (rewrite_two.calls _ _ (l0.drop ((ji7) : Int).toNat) t699 _ ?side1 ?side2 A10.out).mono ?_
            (case side1 => exact Kd.C_below HR698.out (bz HB))
            (case side2 => exact HC698.out)
            rintro e w' ⟨rfl, ⟨nd, rfl⟩⟩; refine ⟨_, rfl, ?_⟩; refine hK.out _ _ trivial (fun hHeld => ?_); clear hK K; refine nz 23 ?_; refine pz 9 6 HT_ ?_; refine pz 10 7 HT_ ?_; refine dz HT_ ?_; have p700 : 0 <= (9 : Int) := (by omega)
            have q700 : 9 < (l0.length : Int) := odt; obtain ⟨ad700, e700, hx700_0⟩ := Kd.at_int HR0.out 9 p700 q700
            cases e700
            (try simp only [show (9 : Int).toNat = 9 from rfl, Nat.reduceMul, Nat.reduceEqDiff, Go.Addr.add, ↓reduceIte] at hx700_0)
            have qi700 : (9 < l0.length) = True := eq_true (by omega)
            (try rw [show ((9 : Int)).toNat = 9 from rfl] at hx700_0)
            replace hx700_0 := (HB.out.cell (World.block_lt_of_cell? w _ hx700_0)).trans hx700_0; replace p700 := eq_true p700; replace q700 := eq_true q700; obtain ⟨i025, hi025, _, hsz25, _⟩ := info_parts info5; obtain ⟨A25, hcut25, hA25, hC25⟩ := print_drop_of (P := Try.prog) (Value.int .u8) 0 23 5 .i64 Try.underlying23 hi025 hsz25 (some ad700) c0 l0 (ji13) odt odt HC0.out; have HR701 := Aside0.mk (Kd.C_of_reads (h1 := fun _ => rfl) (hA25 _ (Kd.reads_of_C HR0.out))); have HC701 := Aside0.mk hC25; clear hA25 hC25 hi025 hsz25
            try go_wp2_with (first | ((with_reducible refine gate_callee (f := 87) rfl ?_); refine goesL_ (some 32) rfl rfl Try.func87 (by kernel_rfl) rfl #[.slice A25 (l0.drop ((ji13) : Int).toNat).length (c0 - (ji13).toNat)] rfl (by (try simp only [List.map_toArray, List.map_cons, List.map_nil]); first | done | (rw [show (l0.drop ((ji13) : Int).toNat).length = (l0.length - (ji13).toNat) from List.length_drop] <;> rfl) | (simp only [hji13]; rfl) | rfl | (simp only [List.length_drop, List.length_take]; rfl) | (go_simp; done) | (simp [Act.eval, IntKind.signed]; done) | (simp [Act.eval, IntKind.signed]; rfl)) ?_; (with_reducible refine (rewrite_two.calls _ _ (l0.drop ((ji13) : Int).toNat) t702 _ ?side1 ?side2 A16.out).mono ?_); (case side1 => exact Kd.C_below HR701.out (bz HB)); (case side2 => exact HC701.out); rintro e w' ⟨rfl, ⟨nd, rfl⟩⟩; refine ⟨_, rfl, ?_⟩))
            (try (rw [drewN_self w22]; generalize hq_ : World.drewN w22 _ = w22; have n0_ : Aside0 (Below w.heap.size w w22) := ⟨by rw [<- hq_]; exact bz HB⟩; clear HB hq_; have HB := n0_; clear n0_))
            have n0_ := Aside0.mk (below_drew1 HB.out); clear HB; have HB := n0_; clear n0_; obtain ⟨i027, hi027, _, hsz27, _⟩ := info_parts info5; obtain ⟨A27, hcut27, hA27, hC27⟩ := print_drop_of (P := Try.prog) (Value.int .u8) 0 23 5 .i64 Try.underlying23 hi027 hsz27 (some ad700) c0 l0 12 (by omega) odt HC0.out; have HR703 := Aside0.mk (Kd.C_of_reads (h1 := fun _ => rfl) (hA27 _ (Kd.reads_of_C HR0.out))); have HC703 := Aside0.mk hC27; clear hA27 hC27 hi027 hsz27; obtain ⟨i028, hi028, _, hsz28, _⟩ := info_parts info5; obtain ⟨A28, hcut28, hA28, hC28⟩ := print_drop_of (P := Try.prog) (Value.int .u8) 0 23 5 .i64 Try.underlying23 hi028 hsz28 (some ad700) c0 l0 16 (by omega) odt HC0.out
            have HR705 := Aside0.mk (Kd.C_of_reads (h1 := fun _ => rfl) (hA28 _ (Kd.reads_of_C HR0.out))); have HC705 := Aside0.mk hC28; clear hA28 hC28 hi028 hsz28; refine start_ (n := 13) (S := fun w' => True) (ds := []) #[false, false, false, false, false, false, false, false, false, false, false, false, false] (by kernel_rfl) rfl rfl trivial (fun hHeld => ?_); refine with_tabW rewrite_inner.tab8 rewrite_inner.bits8 (fun HT_ HW_ => ?_); generalize w22.drew = w26 at HB HR703 HR705 hHeld |-
            refine pz 0 34 HT_ ?_; refine pz 1 35 HT_ ?_; refine pz 3 37 HT_ ?_; refine pz 5 39 HT_ ?_; refine pz 6 40 HT_ ?_; refine pz 8 42 HT_ ?_; refine oz 2 (some 36) HT_ (fun K hK => ?_); refine goes_ Try.func124 (by kernel_rfl) rfl #[.slice A27 (l0.drop 12).length (c0 - 12)] (by rfl) rfl rfl (by (try simp only [List.map_toArray, List.map_cons, List.map_nil]); first | done | (rw [show (l0.drop 12).length = (l0.length - 12) from List.length_drop] <;> rfl) | rfl | (simp only [List.length_drop, List.length_take]; rfl) | (go_simp; done) | (simp [Act.eval, IntKind.signed]; done) | (simp [Act.eval, IntKind.signed]; rfl)) ?_
            with_reducible refine (rewrite_four.calls _ _ (l0.drop 12) t704 _ ?side1 ?side2 A18.out).mono ?_
            (case side1 => exact Kd.C_below HR703.out (bz HB))
            (case side2 => exact HC703.out)
            rintro e w' ⟨rfl, ⟨nd, rfl⟩⟩; refine ⟨_, rfl, ?_⟩; refine hK.out _ _ trivial (fun hHeld => ?_); clear hK K; refine nz 36 ?_; refine pz 4 38 HT_ ?_; refine oz 7 (some 41) HT_ (fun K hK => ?_); refine goes_ Try.func124 (by kernel_rfl) rfl #[.slice A28 (l0.drop 16).length (c0 - 16)] (by rfl) rfl rfl (by (try simp only [List.map_toArray, List.map_cons, List.map_nil]); first | done | (rw [show (l0.drop 16).length = (l0.length - 16) from List.length_drop] <;> rfl) | rfl | (simp only [List.length_drop, List.length_take]; rfl) | (go_simp; done) | (simp [Act.eval, IntKind.signed]; done) | (simp [Act.eval, IntKind.signed]; rfl)) ?_
            with_reducible refine (rewrite_four.calls _ _ (l0.drop 16) t706 _ ?side1 ?side2 A20.out).mono ?_
            (case side1 => exact Kd.C_below HR705.out (bz HB))
            (case side2 => exact HC705.out)
            rintro e w' ⟨rfl, ⟨nd, rfl⟩⟩; refine ⟨_, rfl, ?_⟩; refine hK.out _ _ trivial (fun hHeld => ?_); clear hK K; refine nz 41 ?_; refine pz 9 43 HT_ ?_; refine oz 10 (some 44) HT_ (fun K hK => ?_)
            refine Kd.R_lit_step k65 _ 65 ?hg (N := 44) ?hd (xs := ([(⟨t704, t702⟩ : S65), (⟨t706, t702⟩ : S65)] : List (S65))) (inner := [.int .u32 t704, .int .u16 t702, .int .u32 t706, .int .u16 t702]) (ok := fun _ => True) (okp := fun _ => True) ?hr ?hp (fun _ hk => hk) trivial (Below.refl _ _) (Nat.le_refl _) (by simp) ?_; (case hd => rfl); (case hg => rfl); (case hr => first | (go_simp; done) | (go_simp; rfl)); (case hp => exact (Reps.c2 (show Kd.M k65 _ _ _ (⟨t704, t702⟩ : S65) [.int .u32 t704, .int .u16 t702] from (k65_mkM _ _ _ (⟨t704, t702⟩ : S65) )) (Reps.c2 (show Kd.M k65 _ _ _ (⟨t706, t702⟩ : S65) [.int .u32 t706, .int .u16 t702] from (k65_mkM _ _ _ (⟨t706, t702⟩ : S65) )) (Reps.none _ _)))); intro v708 w29 ho30 hb hg_ hnew_; clear hg_ hnew_
            (first | rw [<- Ny707.out] at ho30 | (simp only [Int.reduceToNat] at ho30; rw [<- Ny707.out] at ho30))
            have n0_ := Aside0.mk (Kd.R_lower ho30 (below_size (bz HB))); have n1_ := Aside0.mk (below_step (bz HB) hb); clear HB; have HO709 := n0_; have HB := n1_; clear n0_ n1_; clear hb ho30; refine hK.out _ _ trivial (fun hHeld => ?_); clear hK K; refine nz 44 ?_; refine pz 11 2 HT_ ?_; refine pz 12 3 HT_ ?_; refine dz HT_ ?_
            try go_wp2
            go_ret2
            exact ⟨_, by first | rfl | (simp [errW_none, errW_some] <;> rfl) | (simp only [<- hji7, <- hji13]; first | rfl | (simp [errW_none, errW_some] <;> rfl)) | (simp [*, errW_none, errW_some] <;> rfl), by (with_reducible repeat (first | apply Kd.R_alloc | apply Kd.R_drewN | apply Kd.R_drew)); exact HO709.out, bz HB⟩
           ·rw [if_neg c19] at H
            exact absurd H (by simp)
          ·rw [if_neg c17] at H
           exact absurd H (by simp)
         ·rw [if_neg c15] at H
          exact absurd H (by simp)
        ·rw [if_neg c14] at H
         exact absurd H (by simp)
       ·rw [if_neg c12] at H
        have c12b0 : ((rd l0 9) == 1) = false := beq_eq_false_iff_ne.mpr c12; have c12b1 : ((rd l0 9) != 1) = true := bne_iff_ne.mpr c12
        by_cases c31 : 12 <= (l0.length : Int)
        ·rw [if_pos c31] at H
         have c31b0 := eq_true c31; have c31b1 : decide (12 <= (l0.length : Int)) = true := decide_eq_true c31; clear c31; replace H := Option.bind_eq_some_iff.mp H; obtain ⟨t711, A320, H⟩ := H
         (try dsimp -simprocs only at H)
         have A32 := Aside0.mk A320; clear A320
         by_cases c33 : 16 <= (l0.length : Int)
         ·rw [if_pos c33] at H
          have c33b0 := eq_true c33; have c33b1 : decide (16 <= (l0.length : Int)) = true := decide_eq_true c33; clear c33; replace H := Option.bind_eq_some_iff.mp H; obtain ⟨t713, A340, H⟩ := H
          (try dsimp -simprocs only at H)
          have A34 := Aside0.mk A340; clear A340; obtain ⟨y714, hy714⟩ : ∃ y_ : List (S65), y_ = (([(⟨t711, t697⟩ : S65), (⟨t713, t699⟩ : S65)] : List (S65))) := ⟨_, rfl⟩
          rw [<- hy714] at H
          have Ny714 := Aside0.mk hy714; clear hy714; simp only [Option.some.injEq, Prod.mk.injEq] at H
          obtain ⟨rfl, rfl⟩ := H
          go_enter Try.func104, Try.ntmps104
          try go_wp2_with (first | ((with_reducible refine gate_callee (f := 86) rfl ?_); refine gL 10 Try.func86 #[.slice A0 l0.length c0] ?_; (with_reducible refine (rewrite_within.calls k _ _ l0 t694 true _ ?side1 ?side2 A2.out).mono ?_); (case side1 => repeat (first | exact HR0.out | (with_reducible refine Kd.C_alloc ?_ _) | (with_reducible refine Kd.C_drewN ?_ _) | (with_reducible refine Kd.C_drew ?_))); (case side2 => exact HC0.out); rintro e w35 ⟨rfl, hb⟩; refine ⟨_, rfl, ?_⟩; have n0_ := Aside0.mk (below_step (bz HB) hb); clear HB; have HB := n0_; clear n0_; (try clear hb); (try clear hb2); (try clear hk); (try clear hi)))
          have n0_ := Aside0.mk (below_drew1 HB.out); clear HB; have HB := n0_; clear n0_; obtain ⟨i037, hi037, _, hsz37, _⟩ := info_parts info5; obtain ⟨A37, hcut37, hA37, hC37⟩ := print_drop_of (P := Try.prog) (Value.int .u8) 0 23 5 .i64 Try.underlying23 hi037 hsz37 A0 c0 l0 t694 odt odt HC0.out; have HR696 := Aside0.mk (Kd.C_of_reads (h1 := fun _ => rfl) (hA37 _ (Kd.reads_of_C HR0.out))); have HC696 := Aside0.mk hC37; clear hA37 hC37 hi037 hsz37; obtain ⟨i038, hi038, _, hsz38, _⟩ := info_parts info5
          obtain ⟨A38, hcut38, hA38, hC38⟩ := print_drop_of (P := Try.prog) (Value.int .u8) 0 23 5 .i64 Try.underlying23 hi038 hsz38 A0 c0 l0 (ji7) odt odt HC0.out; have HR698 := Aside0.mk (Kd.C_of_reads (h1 := fun _ => rfl) (hA38 _ (Kd.reads_of_C HR0.out))); have HC698 := Aside0.mk hC38; clear hA38 hC38 hi038 hsz38; refine start_ (n := 11) (S := fun w' => True) (ds := []) #[false, false, false, false, false, false, false, false, false, false, false] (by kernel_rfl) rfl rfl trivial (fun hHeld => ?_); refine with_tabW rewrite_inner.tab4 rewrite_inner.bits4 (fun HT_ HW_ => ?_); generalize w35.drew = w36 at HB HR696 HR698 hHeld |-
          refine pz 0 15 HT_ ?_; refine pz 1 16 HT_ ?_; refine pz 2 17 HT_ ?_; refine pz 4 19 HT_ ?_; refine pz 5 20 HT_ ?_; refine pz 6 21 HT_ ?_; refine pz 7 22 HT_ ?_; refine oz 3 (some 18) HT_ (fun K hK => ?_); refine goes_ Try.func87 (by kernel_rfl) rfl #[.slice A37 (l0.drop (t694 : Int).toNat).length (c0 - t694.toNat)] (by rfl) rfl rfl (by (try simp only [List.map_toArray, List.map_cons, List.map_nil]); first | done | (rw [show (l0.drop (t694 : Int).toNat).length = (l0.length - t694.toNat) from List.length_drop] <;> rfl) | rfl | (simp only [List.length_drop, List.length_take]; rfl) | (go_simp; done) | (simp [Act.eval, IntKind.signed]; done) | (simp [Act.eval, IntKind.signed]; rfl)) ?_
          with_reducible refine (rewrite_two.calls _ _ (l0.drop (t694 : Int).toNat) t697 _ ?side1 ?side2 A6.out).mono ?_
          (case side1 => exact Kd.C_below HR696.out (bz HB))
          (case side2 => exact HC696.out)
          rintro e w' ⟨rfl, ⟨nd, rfl⟩⟩; refine ⟨_, rfl, ?_⟩; refine hK.out _ _ trivial (fun hHeld => ?_); clear hK K; refine nz 18 ?_; refine oz 8 (some 23) HT_ (fun K hK => ?_); refine goes_ Try.func87 (by kernel_rfl) rfl #[.slice A38 (l0.drop ((ji7) : Int).toNat).length (c0 - (ji7).toNat)] (by rfl) rfl rfl (by (try simp only [List.map_toArray, List.map_cons, List.map_nil]); first | done | (rw [show (l0.drop ((ji7) : Int).toNat).length = (l0.length - (ji7).toNat) from List.length_drop] <;> rfl) | (simp only [hji7]; rfl) | rfl | (simp only [List.length_drop, List.length_take]; rfl) | (go_simp; done) | (simp [Act.eval, IntKind.signed]; done) | (simp [Act.eval, IntKind.signed]; rfl)) ?_
          with_reducible refine (rewrite_two.calls _ _ (l0.drop ((ji7) : Int).toNat) t699 _ ?side1 ?side2 A10.out).mono ?_
          (case side1 => exact Kd.C_below HR698.out (bz HB))
          (case side2 => exact HC698.out)
          rintro e w' ⟨rfl, ⟨nd, rfl⟩⟩; refine ⟨_, rfl, ?_⟩; refine hK.out _ _ trivial (fun hHeld => ?_); clear hK K; refine nz 23 ?_; refine pz 9 6 HT_ ?_; refine pz 10 7 HT_ ?_; refine dz HT_ ?_; have p700 : 0 <= (9 : Int) := (by omega)
          have q700 : 9 < (l0.length : Int) := odt; obtain ⟨ad700, e700, hx700_0⟩ := Kd.at_int HR0.out 9 p700 q700
          cases e700
          (try simp only [show (9 : Int).toNat = 9 from rfl, Nat.reduceMul, Nat.reduceEqDiff, Go.Addr.add, ↓reduceIte] at hx700_0)
          have qi700 : (9 < l0.length) = True := eq_true (by omega)
          (try rw [show ((9 : Int)).toNat = 9 from rfl] at hx700_0)
          replace hx700_0 := (HB.out.cell (World.block_lt_of_cell? w _ hx700_0)).trans hx700_0; replace p700 := eq_true p700; replace q700 := eq_true q700
          try go_wp2
          (try (rw [drewN_self w36]; generalize hq_ : World.drewN w36 _ = w36; have n0_ : Aside0 (Below w.heap.size w w36) := ⟨by rw [<- hq_]; exact bz HB⟩; clear HB hq_; have HB := n0_; clear n0_))
          have n0_ := Aside0.mk (below_drew1 HB.out); clear HB; have HB := n0_; clear n0_; obtain ⟨i040, hi040, _, hsz40, _⟩ := info_parts info5; obtain ⟨A40, hcut40, hA40, hC40⟩ := print_drop_of (P := Try.prog) (Value.int .u8) 0 23 5 .i64 Try.underlying23 hi040 hsz40 (some ad700) c0 l0 12 (by omega) odt HC0.out; have HR710 := Aside0.mk (Kd.C_of_reads (h1 := fun _ => rfl) (hA40 _ (Kd.reads_of_C HR0.out))); have HC710 := Aside0.mk hC40; clear hA40 hC40 hi040 hsz40; obtain ⟨i041, hi041, _, hsz41, _⟩ := info_parts info5; obtain ⟨A41, hcut41, hA41, hC41⟩ := print_drop_of (P := Try.prog) (Value.int .u8) 0 23 5 .i64 Try.underlying23 hi041 hsz41 (some ad700) c0 l0 16 (by omega) odt HC0.out
          have HR712 := Aside0.mk (Kd.C_of_reads (h1 := fun _ => rfl) (hA41 _ (Kd.reads_of_C HR0.out))); have HC712 := Aside0.mk hC41; clear hA41 hC41 hi041 hsz41; refine start_ (n := 13) (S := fun w' => True) (ds := []) #[false, false, false, false, false, false, false, false, false, false, false, false, false] (by kernel_rfl) rfl rfl trivial (fun hHeld => ?_); refine with_tabW rewrite_inner.tab8 rewrite_inner.bits8 (fun HT_ HW_ => ?_); generalize w36.drew = w39 at HB HR710 HR712 hHeld |-
          refine pz 0 34 HT_ ?_; refine pz 1 35 HT_ ?_; refine pz 3 37 HT_ ?_; refine pz 5 39 HT_ ?_; refine pz 6 40 HT_ ?_; refine pz 8 42 HT_ ?_; refine oz 2 (some 36) HT_ (fun K hK => ?_); refine goes_ Try.func124 (by kernel_rfl) rfl #[.slice A40 (l0.drop 12).length (c0 - 12)] (by rfl) rfl rfl (by (try simp only [List.map_toArray, List.map_cons, List.map_nil]); first | done | (rw [show (l0.drop 12).length = (l0.length - 12) from List.length_drop] <;> rfl) | rfl | (simp only [List.length_drop, List.length_take]; rfl) | (go_simp; done) | (simp [Act.eval, IntKind.signed]; done) | (simp [Act.eval, IntKind.signed]; rfl)) ?_
          with_reducible refine (rewrite_four.calls _ _ (l0.drop 12) t711 _ ?side1 ?side2 A32.out).mono ?_
          (case side1 => exact Kd.C_below HR710.out (bz HB))
          (case side2 => exact HC710.out)
          rintro e w' ⟨rfl, ⟨nd, rfl⟩⟩; refine ⟨_, rfl, ?_⟩; refine hK.out _ _ trivial (fun hHeld => ?_); clear hK K; refine nz 36 ?_; refine pz 4 38 HT_ ?_; refine oz 7 (some 41) HT_ (fun K hK => ?_); refine goes_ Try.func124 (by kernel_rfl) rfl #[.slice A41 (l0.drop 16).length (c0 - 16)] (by rfl) rfl rfl (by (try simp only [List.map_toArray, List.map_cons, List.map_nil]); first | done | (rw [show (l0.drop 16).length = (l0.length - 16) from List.length_drop] <;> rfl) | rfl | (simp only [List.length_drop, List.length_take]; rfl) | (go_simp; done) | (simp [Act.eval, IntKind.signed]; done) | (simp [Act.eval, IntKind.signed]; rfl)) ?_
          with_reducible refine (rewrite_four.calls _ _ (l0.drop 16) t713 _ ?side1 ?side2 A34.out).mono ?_
          (case side1 => exact Kd.C_below HR712.out (bz HB))
          (case side2 => exact HC712.out)
          rintro e w' ⟨rfl, ⟨nd, rfl⟩⟩; refine ⟨_, rfl, ?_⟩; refine hK.out _ _ trivial (fun hHeld => ?_); clear hK K; refine nz 41 ?_; refine pz 9 43 HT_ ?_; refine oz 10 (some 44) HT_ (fun K hK => ?_)
          refine Kd.R_lit_step k65 _ 65 ?hg (N := 44) ?hd (xs := ([(⟨t711, t697⟩ : S65), (⟨t713, t699⟩ : S65)] : List (S65))) (inner := [.int .u32 t711, .int .u16 t697, .int .u32 t713, .int .u16 t699]) (ok := fun _ => True) (okp := fun _ => True) ?hr ?hp (fun _ hk => hk) trivial (Below.refl _ _) (Nat.le_refl _) (by simp) ?_; (case hd => rfl); (case hg => rfl); (case hr => first | (go_simp; done) | (go_simp; rfl)); (case hp => exact (Reps.c2 (show Kd.M k65 _ _ _ (⟨t711, t697⟩ : S65) [.int .u32 t711, .int .u16 t697] from (k65_mkM _ _ _ (⟨t711, t697⟩ : S65) )) (Reps.c2 (show Kd.M k65 _ _ _ (⟨t713, t699⟩ : S65) [.int .u32 t713, .int .u16 t699] from (k65_mkM _ _ _ (⟨t713, t699⟩ : S65) )) (Reps.none _ _)))); intro v715 w42 ho43 hb hg_ hnew_; clear hg_ hnew_
          (first | rw [<- Ny714.out] at ho43 | (simp only [Int.reduceToNat] at ho43; rw [<- Ny714.out] at ho43))
          have n0_ := Aside0.mk (Kd.R_lower ho43 (below_size (bz HB))); have n1_ := Aside0.mk (below_step (bz HB) hb); clear HB; have HO716 := n0_; have HB := n1_; clear n0_ n1_; clear hb ho43; refine hK.out _ _ trivial (fun hHeld => ?_); clear hK K; refine nz 44 ?_; refine pz 11 2 HT_ ?_; refine pz 12 3 HT_ ?_; refine dz HT_ ?_
          try go_wp2
          go_ret2
          exact ⟨_, by first | rfl | (simp [errW_none, errW_some] <;> rfl) | (simp only [<- hji7]; first | rfl | (simp [errW_none, errW_some] <;> rfl)) | (simp [*, errW_none, errW_some] <;> rfl), by (with_reducible repeat (first | apply Kd.R_alloc | apply Kd.R_drewN | apply Kd.R_drew)); exact HO716.out, bz HB⟩
         ·rw [if_neg c33] at H
          exact absurd H (by simp)
        ·rw [if_neg c31] at H
         exact absurd H (by simp)
      ·rw [if_neg c11] at H
       exact absurd H (by simp)
     ·rw [if_neg c9] at H
      exact absurd H (by simp)
    ·rw [if_neg c8] at H
     exact absurd H (by simp)
   ·rw [if_neg c5] at H
    exact absurd H (by simp)
  ·rw [if_neg c4] at H
   exact absurd H (by simp)
 ·replace c3 := Bool.eq_false_iff.mpr c3
  subst c3; have H1 : (some (([] : List (S65)), false)) = some (r1, r2) := by rw [if_neg (show ¬ (false = true) by decide)] at H; exact H
  clear H; have H := H1; clear H1; simp only [Option.some.injEq, Prod.mk.injEq] at H
  obtain ⟨rfl, rfl⟩ := H
  go_enter Try.func104, Try.ntmps104
  go_wp2_with (first | ((with_reducible refine gate_callee (f := 86) rfl ?_); refine gL 10 Try.func86 #[.slice A0 l0.length c0] ?_; (with_reducible refine (rewrite_within.calls k _ _ l0 t694 false _ ?side1 ?side2 A2.out).mono ?_); (case side1 => repeat (first | exact HR0.out | (with_reducible refine Kd.C_alloc ?_ _) | (with_reducible refine Kd.C_drewN ?_ _) | (with_reducible refine Kd.C_drew ?_))); (case side2 => exact HC0.out); rintro e w44 ⟨rfl, hb⟩; refine ⟨_, rfl, ?_⟩; have n0_ := Aside0.mk (below_step (bz HB) hb); clear HB; have HB := n0_; clear n0_; (try clear hb); (try clear hb2); (try clear hk); (try clear hi)))
  go_ret2
  exact ⟨_, by first | rfl | (simp [errW_none, errW_some] <;> rfl) | (simp [*, errW_none, errW_some] <;> rfl), by first | exact Kd.R_nil _ _ _ _ _ | exact Kd.N_nil _ _ _ _ _ | exact Kd.V_nil _ _ _ _ _ | exact Kd.Q_nil _ _ _ _ _ | exact Kd.S_nil _ _ _ _ _, bz HB⟩
def icmp_Error.f (a0_0 : Int) (a0_1 : Int) (a0_2 : Int) (a0_3 : Int) (l0_4 : List Int) : Option (Bool) := (icmp_kind.f a0_0).bind fun t718 => (some (t718 == 3))
theorem icmp_Error.calls (a0_0 : Int) (a0_1 : Int) (a0_2 : Int) (a0_3 : Int) (A0_4 : Option Addr) (c0_4 : Nat) (l0_4 : List Int) (r : Bool) (w : World) (hr0_4 : Kd.C (Kd.int .u8) w A0_4 l0_4.length l0_4) (hc0_4 : l0_4.length <= c0_4) (h : icmp_Error.f a0_0 a0_1 a0_2 a0_3 l0_4 = some r) :
  Calls Try.prog 106 #[.agg #[.int .u8 a0_0, .int .u8 a0_1, .int .u16 a0_2, .int .u32 a0_3, .slice A0_4 l0_4.length c0_4]] w fun e w' => e = .returned (.bool r) /\ Below w.heap.size w w' := by
 have hu101 := Try.underlying101; have HR0_4 := Aside0.mk hr0_4; have HC0_4 := Aside0.mk hc0_4; clear hr0_4 hc0_4; have HB := Aside0.mk (Below.refl w.heap.size w); have H : ((icmp_kind.f a0_0).bind fun t718 => (some (t718 == 3))) = some r := h; clear h; replace H := Option.bind_eq_some_iff.mp H; obtain ⟨t718, A20, H⟩ := H
 (try dsimp -simprocs only at H)
 have A2 := Aside0.mk A20; clear A20; obtain rfl := Option.some.inj H
 go_enter Try.func106, Try.ntmps106
 go_wp2_with (first | ((with_reducible refine gate_callee (f := 125) rfl ?_); refine gL 5 Try.func125 #[.int .u8 a0_0] ?_; (with_reducible refine (icmp_kind.calls a0_0 t718 _ A2.out).mono ?_); rintro e w' ⟨rfl, ⟨nd, rfl⟩⟩; refine ⟨_, rfl, ?_⟩))
 go_ret
 exact ⟨by first | rfl | (simp [errW_none, errW_some] <;> rfl) | (simp [*, errW_none, errW_some] <;> rfl), bz HB⟩
def udp_Sum.f (k : Nat) (a0 : Int) (a1 : Int) (a2_0 : Int) (a2_1 : Int) (a2_2 : Int) (l2_3 : List Int) : Option (Int) := (udp_total.f k a0 a1 a2_0 a2_1 0 l2_3).bind fun bt720 => (if bt720.2 = true then (if bt720.1 = 65535 then (some bt720.1) else (some (Go.bits .xor .u16 IntKind.u16.max bt720.1))) else (some 0))
theorem udp_Sum.calls (k : Nat) (a0 : Int) (a1 : Int) (a2_0 : Int) (a2_1 : Int) (a2_2 : Int) (A2_3 : Option Addr) (c2_3 : Nat) (l2_3 : List Int) (r : Int) (w : World) (hr2_3 : Kd.C (Kd.int .u8) w A2_3 l2_3.length l2_3) (hc2_3 : l2_3.length <= c2_3) (h : udp_Sum.f k a0 a1 a2_0 a2_1 a2_2 l2_3 = some r) :
  Calls Try.prog 107 #[.int .u32 a0, .int .u32 a1, .agg #[.int .u16 a2_0, .int .u16 a2_1, .int .u16 a2_2, .slice A2_3 l2_3.length c2_3]] w fun e w' => e = .returned (.int .u16 r) /\ Below w.heap.size w w' := by
 have hu83 := Try.underlying83; have hsg_u16 : IntKind.u16.signed = false := rfl; have HR2_3 := Aside0.mk hr2_3; have HC2_3 := Aside0.mk hc2_3; clear hr2_3 hc2_3; have HB := Aside0.mk (Below.refl w.heap.size w); have H : ((udp_total.f k a0 a1 a2_0 a2_1 0 l2_3).bind fun bt720 => (if bt720.2 = true then (if bt720.1 = 65535 then (some bt720.1) else (some (Go.bits .xor .u16 IntKind.u16.max bt720.1))) else (some 0))) = some r := h; clear h; replace H := Option.bind_eq_some_iff.mp H; obtain ⟨⟨t720, t721⟩, A40, H⟩ := H
 (try dsimp -simprocs only at H)
 have A4 := Aside0.mk A40; clear A40
 by_cases c5 : t721 = true
 ·subst c5
  have H1 : (if t720 = 65535 then (some t720) else (some (Go.bits .xor .u16 IntKind.u16.max t720))) = some r := by rw [if_pos rfl] at H; exact H
  clear H; have H := H1; clear H1
  by_cases c6 : t720 = 65535
  ·rw [if_pos c6] at H
   have c6b0 : (t720 == 65535) = true := beq_iff_eq.mpr c6; have c6b1 : (t720 != 65535) = false := bne_eq_false_iff_eq.mpr c6; clear c6; obtain rfl := Option.some.inj H
   go_enter Try.func107, Try.ntmps107
   go_wp2_with (first | ((with_reducible refine gate_dst (N := 5) rfl ?_); refine box_event ?hg (N := 5) ?hd (cs := #[.int .u16 a2_0, .int .u16 a2_1, .int .u16 a2_2, .slice A2_3 l2_3.length c2_3]) (t := 83) ?hr ?_; (case hd => rfl); (case hg => rfl); (case hr => first | (go_simp; done) | (go_simp; rfl)); intro gb719 hg w7 hbox hb; have n0_ := Aside0.mk (below_step (bz HB) hb); have n1_ := Aside0.mk (hbox); have n2_ := Aside0.mk ((by rw [hg]; exact (below_size (bz HB)) : w.heap.size <= gb719)); have n3_ := Aside0.mk ((by rw [hg]; exact (below_size (bz HB)) : w.heap.size <= gb719)); clear HB; have HB := n0_; have BK719 := n1_; have GW719 := n2_; have GE719 := n3_; clear n0_ n1_ n2_ n3_; clear hb hbox hg; have hcz8_0 : w7.cell? ⟨gb719, 0, none⟩ = some (.int .u16 a2_0) := cz BK719.out 0 rfl; have hcz8_1 : w7.cell? ⟨gb719, 1, none⟩ = some (.int .u16 a2_1) := cz BK719.out 1 rfl; have hcz8_2 : w7.cell? ⟨gb719, 2, none⟩ = some (.int .u16 a2_2) := cz BK719.out 2 rfl; have hcz8_3 : w7.cell? ⟨gb719, 3, none⟩ = some (.slice A2_3 l2_3.length c2_3) := cz BK719.out 3 rfl; have hfz8_0 := blk_frozen BK719.out 0; have hfz8_1 := blk_frozen BK719.out 1; have hfz8_2 := blk_frozen BK719.out 2; have hfz8_3 := blk_frozen BK719.out 3) | ((with_reducible refine gate_callee (f := 98) rfl ?_); refine gL 14 Try.func98 #[.int .u32 a0, .int .u32 a1, .agg #[.int .u16 a2_0, .int .u16 a2_1, .int .u16 0, .slice A2_3 l2_3.length c2_3]] ?_; (with_reducible refine (udp_total.calls k a0 a1 a2_0 a2_1 0 _ _ l2_3 t720 true _ ?side1 ?side2 A4.out).mono ?_); (case side1 => exact Kd.C_below HR2_3.out (bz HB)); (case side2 => exact HC2_3.out); rintro e w9 ⟨rfl, hb⟩; refine ⟨_, rfl, ?_⟩; have n0_ := Aside0.mk (blk_below (g := gb719) (o := .cells #[.int .u16 a2_0, .int .u16 a2_1, .int .u16 0, .slice A2_3 l2_3.length c2_3] 83 (0, 0)) (by (with_reducible repeat (first | refine blk_drewN ?_ _ | refine blk_drew ?_ | refine blk_alloc ?_ _)); refine blk_put (cs := #[.int .u16 a2_0, .int .u16 a2_1, .int .u16 a2_2, .slice A2_3 l2_3.length c2_3]) ?_ 2 _ rfl; (with_reducible repeat (first | refine blk_drewN ?_ _ | refine blk_drew ?_ | refine blk_alloc ?_ _)); exact BK719.out) hb); have n1_ := Aside0.mk (below_step (bz HB) hb); clear BK719; clear HB; have BK719 := n0_; have HB := n1_; clear n0_ n1_; (try clear hb); (try clear hb2); (try clear hk); (try clear hi)))
   go_ret
   exact ⟨by first | rfl | (simp [errW_none, errW_some] <;> rfl) | (simp [*, errW_none, errW_some] <;> rfl), bz HB⟩
  ·rw [if_neg c6] at H
   have c6b0 : (t720 == 65535) = false := beq_eq_false_iff_ne.mpr c6; have c6b1 : (t720 != 65535) = true := bne_iff_ne.mpr c6; obtain rfl := Option.some.inj H
   go_enter Try.func107, Try.ntmps107
   go_wp2_with (first | ((with_reducible refine gate_dst (N := 5) rfl ?_); refine box_event ?hg (N := 5) ?hd (cs := #[.int .u16 a2_0, .int .u16 a2_1, .int .u16 a2_2, .slice A2_3 l2_3.length c2_3]) (t := 83) ?hr ?_; (case hd => rfl); (case hg => rfl); (case hr => first | (go_simp; done) | (go_simp; rfl)); intro gb719 hg w10 hbox hb; have n0_ := Aside0.mk (below_step (bz HB) hb); have n1_ := Aside0.mk (hbox); have n2_ := Aside0.mk ((by rw [hg]; exact (below_size (bz HB)) : w.heap.size <= gb719)); have n3_ := Aside0.mk ((by rw [hg]; exact (below_size (bz HB)) : w.heap.size <= gb719)); clear HB; have HB := n0_; have BK719 := n1_; have GW719 := n2_; have GE719 := n3_; clear n0_ n1_ n2_ n3_; clear hb hbox hg; have hcz11_0 : w10.cell? ⟨gb719, 0, none⟩ = some (.int .u16 a2_0) := cz BK719.out 0 rfl; have hcz11_1 : w10.cell? ⟨gb719, 1, none⟩ = some (.int .u16 a2_1) := cz BK719.out 1 rfl; have hcz11_2 : w10.cell? ⟨gb719, 2, none⟩ = some (.int .u16 a2_2) := cz BK719.out 2 rfl; have hcz11_3 : w10.cell? ⟨gb719, 3, none⟩ = some (.slice A2_3 l2_3.length c2_3) := cz BK719.out 3 rfl; have hfz11_0 := blk_frozen BK719.out 0; have hfz11_1 := blk_frozen BK719.out 1; have hfz11_2 := blk_frozen BK719.out 2; have hfz11_3 := blk_frozen BK719.out 3) | ((with_reducible refine gate_callee (f := 98) rfl ?_); refine gL 14 Try.func98 #[.int .u32 a0, .int .u32 a1, .agg #[.int .u16 a2_0, .int .u16 a2_1, .int .u16 0, .slice A2_3 l2_3.length c2_3]] ?_; (with_reducible refine (udp_total.calls k a0 a1 a2_0 a2_1 0 _ _ l2_3 t720 true _ ?side1 ?side2 A4.out).mono ?_); (case side1 => exact Kd.C_below HR2_3.out (bz HB)); (case side2 => exact HC2_3.out); rintro e w12 ⟨rfl, hb⟩; refine ⟨_, rfl, ?_⟩; have n0_ := Aside0.mk (blk_below (g := gb719) (o := .cells #[.int .u16 a2_0, .int .u16 a2_1, .int .u16 0, .slice A2_3 l2_3.length c2_3] 83 (0, 0)) (by (with_reducible repeat (first | refine blk_drewN ?_ _ | refine blk_drew ?_ | refine blk_alloc ?_ _)); refine blk_put (cs := #[.int .u16 a2_0, .int .u16 a2_1, .int .u16 a2_2, .slice A2_3 l2_3.length c2_3]) ?_ 2 _ rfl; (with_reducible repeat (first | refine blk_drewN ?_ _ | refine blk_drew ?_ | refine blk_alloc ?_ _)); exact BK719.out) hb); have n1_ := Aside0.mk (below_step (bz HB) hb); clear BK719; clear HB; have BK719 := n0_; have HB := n1_; clear n0_ n1_; (try clear hb); (try clear hb2); (try clear hk); (try clear hi)))
   go_ret
   exact ⟨by first | rfl | (simp [errW_none, errW_some] <;> rfl) | (simp [*, errW_none, errW_some] <;> rfl), bz HB⟩
 ·replace c5 := Bool.eq_false_iff.mpr c5
  subst c5; have H1 : (some 0) = some r := by rw [if_neg (show ¬ (false = true) by decide)] at H; exact H
  clear H; have H := H1; clear H1; obtain rfl := Option.some.inj H
  go_enter Try.func107, Try.ntmps107
  go_wp2_with (first | ((with_reducible refine gate_dst (N := 5) rfl ?_); refine box_event ?hg (N := 5) ?hd (cs := #[.int .u16 a2_0, .int .u16 a2_1, .int .u16 a2_2, .slice A2_3 l2_3.length c2_3]) (t := 83) ?hr ?_; (case hd => rfl); (case hg => rfl); (case hr => first | (go_simp; done) | (go_simp; rfl)); intro gb719 hg w13 hbox hb; have n0_ := Aside0.mk (below_step (bz HB) hb); have n1_ := Aside0.mk (hbox); have n2_ := Aside0.mk ((by rw [hg]; exact (below_size (bz HB)) : w.heap.size <= gb719)); have n3_ := Aside0.mk ((by rw [hg]; exact (below_size (bz HB)) : w.heap.size <= gb719)); clear HB; have HB := n0_; have BK719 := n1_; have GW719 := n2_; have GE719 := n3_; clear n0_ n1_ n2_ n3_; clear hb hbox hg; have hcz14_0 : w13.cell? ⟨gb719, 0, none⟩ = some (.int .u16 a2_0) := cz BK719.out 0 rfl; have hcz14_1 : w13.cell? ⟨gb719, 1, none⟩ = some (.int .u16 a2_1) := cz BK719.out 1 rfl; have hcz14_2 : w13.cell? ⟨gb719, 2, none⟩ = some (.int .u16 a2_2) := cz BK719.out 2 rfl; have hcz14_3 : w13.cell? ⟨gb719, 3, none⟩ = some (.slice A2_3 l2_3.length c2_3) := cz BK719.out 3 rfl; have hfz14_0 := blk_frozen BK719.out 0; have hfz14_1 := blk_frozen BK719.out 1; have hfz14_2 := blk_frozen BK719.out 2; have hfz14_3 := blk_frozen BK719.out 3) | ((with_reducible refine gate_callee (f := 98) rfl ?_); refine gL 14 Try.func98 #[.int .u32 a0, .int .u32 a1, .agg #[.int .u16 a2_0, .int .u16 a2_1, .int .u16 0, .slice A2_3 l2_3.length c2_3]] ?_; (with_reducible refine (udp_total.calls k a0 a1 a2_0 a2_1 0 _ _ l2_3 t720 false _ ?side1 ?side2 A4.out).mono ?_); (case side1 => exact Kd.C_below HR2_3.out (bz HB)); (case side2 => exact HC2_3.out); rintro e w15 ⟨rfl, hb⟩; refine ⟨_, rfl, ?_⟩; have n0_ := Aside0.mk (blk_below (g := gb719) (o := .cells #[.int .u16 a2_0, .int .u16 a2_1, .int .u16 0, .slice A2_3 l2_3.length c2_3] 83 (0, 0)) (by (with_reducible repeat (first | refine blk_drewN ?_ _ | refine blk_drew ?_ | refine blk_alloc ?_ _)); refine blk_put (cs := #[.int .u16 a2_0, .int .u16 a2_1, .int .u16 a2_2, .slice A2_3 l2_3.length c2_3]) ?_ 2 _ rfl; (with_reducible repeat (first | refine blk_drewN ?_ _ | refine blk_drew ?_ | refine blk_alloc ?_ _)); exact BK719.out) hb); have n1_ := Aside0.mk (below_step (bz HB) hb); clear BK719; clear HB; have BK719 := n0_; have HB := n1_; clear n0_ n1_; (try clear hb); (try clear hb2); (try clear hk); (try clear hi)))
  go_ret
  exact ⟨by first | rfl | (simp [errW_none, errW_some] <;> rfl) | (simp [*, errW_none, errW_some] <;> rfl), bz HB⟩
theorem inR179 (v b : Value) (w : World) : (callMethod (.iface 179 v) "lych/rewrite.right" #[b]).run Try.prog w = .ok (.enter 156 #[v, b]) w := by kernel_rfl
attribute [local go_sem] inR179
theorem inP179 (v : Value) (w : World) : (callMethod (.iface 179 v) "lych/rewrite.proto" #[]).run Try.prog w = .ok (.enter 155 #[v]) w := by kernel_rfl
attribute [local go_sem] inP179
theorem inR181 (v b : Value) (w : World) : (callMethod (.iface 181 v) "lych/rewrite.right" #[b]).run Try.prog w = .ok (.enter 158 #[v, b]) w := by kernel_rfl
attribute [local go_sem] inR181
theorem inP181 (v : Value) (w : World) : (callMethod (.iface 181 v) "lych/rewrite.proto" #[]).run Try.prog w = .ok (.enter 157 #[v]) w := by kernel_rfl
attribute [local go_sem] inP181
theorem inR183 (v b : Value) (w : World) : (callMethod (.iface 183 v) "lych/rewrite.right" #[b]).run Try.prog w = .ok (.enter 161 #[v, b]) w := by kernel_rfl
attribute [local go_sem] inR183
theorem inP183 (v : Value) (w : World) : (callMethod (.iface 183 v) "lych/rewrite.proto" #[]).run Try.prog w = .ok (.enter 160 #[v]) w := by kernel_rfl
attribute [local go_sem] inP183
theorem inT179 (v : Value) (w : World) : (Instr.typeAssert (.iface 179 v) 130 179 false).run Try.prog w = .ok v w := by kernel_rfl
attribute [local go_sem] inT179
theorem inT181 (v : Value) (w : World) : (Instr.typeAssert (.iface 181 v) 130 181 false).run Try.prog w = .ok v w := by kernel_rfl
attribute [local go_sem] inT181
theorem inT183 (v : Value) (w : World) : (Instr.typeAssert (.iface 183 v) 130 183 false).run Try.prog w = .ok v w := by kernel_rfl
attribute [local go_sem] inT183
theorem inF179 (c0 c1 c2 c3 : Value) (w : World) : (Instr.field 179 (.agg #[c0, c1, c2, c3]) 0).run Try.prog w = .ok (.agg #[c0, c1, c2, c3]) w := by kernel_rfl
attribute [local go_sem] inF179
theorem inF181 (c0 c1 c2 c3 c4 c5 c6 c7 c8 c9 : Value) (w : World) : (Instr.field 181 (.agg #[c0, c1, c2, c3, c4, c5, c6, c7, c8, c9]) 0).run Try.prog w = .ok (.agg #[c0, c1, c2, c3, c4, c5, c6, c7, c8, c9]) w := by kernel_rfl
attribute [local go_sem] inF181
theorem inF183 (c0 c1 c2 c3 c4 : Value) (w : World) : (Instr.field 183 (.agg #[c0, c1, c2, c3, c4]) 0).run Try.prog w = .ok (.agg #[c0, c1, c2, c3, c4]) w := by kernel_rfl
attribute [local go_sem] inF183
theorem results_ctct {P : Program} {fn : Func} {p u p2 u2 : Tmp} {ty ty2 : TypeId} (h : fn.results = #[.cell p ty, .tmp u, .cell p2 ty2, .tmp u2]) (tmps : Array Value) (w : World) (g g2 : Nat) (t t2 : TypeId) (cs cs2 : Array Value) (fr fr2 : Nat × Nat) (d d2 : TypeDesc)
  (hp : tmps.getD p undef = .pointer (some ⟨g, 0, none⟩)) (hg : w.heap[g]? = some (.cells cs t fr)) (hu : P.underlying ty = some d) (hd : (match d with | .struct _ | .array _ _ => true | _ => false) = true) (hi : (P.info? ty).map (·.size) = some cs.size)
  (hp2 : tmps.getD p2 undef = .pointer (some ⟨g2, 0, none⟩)) (hg2 : w.heap[g2]? = some (.cells cs2 t2 fr2)) (hu2 : P.underlying ty2 = some d2) (hd2 : (match d2 with | .struct _ | .array _ _ => true | _ => false) = true) (hi2 : (P.info? ty2).map (·.size) = some cs2.size) :
  (results fn tmps).run P w = .ok (.tuple #[.agg cs, tmps.getD u undef, .agg cs2, tmps.getD u2 undef]) w := by
 have h1 : tmps[p]?.getD undef = .pointer (some ⟨g, 0, none⟩) := by simpa using hp
 have h2 : tmps[p2]?.getD undef = .pointer (some ⟨g2, 0, none⟩) := by simpa using hp2
 simp [results, h, h1, h2, asAddr, run_loadVar_row w g t ty cs fr d hg hu hd hi, run_loadVar_row w g2 t2 ty2 cs2 fr2 d2 hg2 hu2 hd2 hi2]
theorem results_cct {P : Program} {fn : Func} {p p2 u2 : Tmp} {ty ty2 : TypeId} (h : fn.results = #[.cell p ty, .cell p2 ty2, .tmp u2]) (tmps : Array Value) (w : World) (g g2 : Nat) (t t2 : TypeId) (cs cs2 : Array Value) (fr fr2 : Nat × Nat) (d d2 : TypeDesc)
  (hp : tmps.getD p undef = .pointer (some ⟨g, 0, none⟩)) (hg : w.heap[g]? = some (.cells cs t fr)) (hu : P.underlying ty = some d) (hd : (match d with | .struct _ | .array _ _ => true | _ => false) = true) (hi : (P.info? ty).map (·.size) = some cs.size)
  (hp2 : tmps.getD p2 undef = .pointer (some ⟨g2, 0, none⟩)) (hg2 : w.heap[g2]? = some (.cells cs2 t2 fr2)) (hu2 : P.underlying ty2 = some d2) (hd2 : (match d2 with | .struct _ | .array _ _ => true | _ => false) = true) (hi2 : (P.info? ty2).map (·.size) = some cs2.size) :
  (results fn tmps).run P w = .ok (.tuple #[.agg cs, .agg cs2, tmps.getD u2 undef]) w := by
 have h1 : tmps[p]?.getD undef = .pointer (some ⟨g, 0, none⟩) := by simpa using hp
 have h2 : tmps[p2]?.getD undef = .pointer (some ⟨g2, 0, none⟩) := by simpa using hp2
 simp [results, h, h1, h2, asAddr, run_loadVar_row w g t ty cs fr d hg hu hd hi, run_loadVar_row w g2 t2 ty2 cs2 fr2 d2 hg2 hu2 hd2 hi2]
inductive RB where
 | no
 | udp (us ud uc : Int) (ub : List Int)
 | tcp (ts td tq ta tf tw tc tu : Int) (to_ tb : List Int)
 | icmp (mt mc ms mr : Int) (mb : List Int)
structure LK where
 (a t pr i fl of_ s d : Int) (o b : List Int) (x : RB) (sp dp ff : Int) (inn : List S65) (e : Int)
def LK.err (e : Int) : LK := ⟨0, 0, 0, 0, 0, 0, 0, 0, [], [], .no, 0, 0, 0, [], e⟩
def RB.V (w : World) (base : Nat) (v : Value) : RB -> Prop
 | .no => v = .nilIface
 | .udp us ud uc ub => ∃ v3 : Value, v = .iface 179 (.agg #[.int .u16 us, .int .u16 ud, .int .u16 uc, v3]) /\ Kd.R (Kd.int .u8) 5 w base (fun _ => True) v3 ub
 | .tcp ts td tq ta tf tw tc tu to_ tb => ∃ v8 v9 : Value, v = .iface 181 (.agg #[.int .u16 ts, .int .u16 td, .int .u32 tq, .int .u32 ta, .int .u8 tf, .int .u16 tw, .int .u16 tc, .int .u16 tu, v8, v9]) /\ Kd.R (Kd.int .u8) 5 w base (fun _ => True) v8 to_ /\ Kd.R (Kd.int .u8) 5 w base (fun _ => True) v9 tb
 | .icmp mt mc ms mr mb => ∃ v4 : Value, v = .iface 183 (.agg #[.int .u8 mt, .int .u8 mc, .int .u16 ms, .int .u32 mr, v4]) /\ Kd.R (Kd.int .u8) 5 w base (fun _ => True) v4 mb
def lookUdp (k : Nat) (a t i fl of_ s d : Int) (o b : List Int) : Option LK :=
 (udp_Parse.f b).bind fun ⟨us, ud, uc, ub, e⟩ => if e = 0 then (udp_Right.f k s d us ud uc ub).bind fun r => if r = true then some ⟨a, t, 17, i, fl, of_, s, d, o, b, .udp us ud uc ub, us, ud, 0, [], 0⟩ else some (LK.err 22) else some (LK.err e)
def lookTcp (k : Nat) (a t i fl of_ s d : Int) (o b : List Int) : Option LK :=
 (tcp_Parse.f b).bind fun ⟨ts, td, tq, ta, tf, tw, tc, tu, to_, tb, e⟩ => if e = 0 then (tcp_Right.f k s d ts td tq ta tf tw tc tu to_ tb).bind fun r => if r = true then some ⟨a, t, 6, i, fl, of_, s, d, o, b, .tcp ts td tq ta tf tw tc tu to_ tb, ts, td, tf, [], 0⟩ else some (LK.err 22) else some (LK.err e)
def lookIcmp (k : Nat) (a t i fl of_ s d : Int) (o b : List Int) : Option LK :=
 (icmp_Parse.f b).bind fun ⟨mt, mc, ms, mr, mb, e⟩ => if e = 0 then (icmp_Right.f k mt mc ms mr mb).bind fun r => if r = true then
  (rewrite_inner.f k mb).bind fun ⟨l, ok⟩ => (icmp_Echo.f mt mc ms mr mb).bind fun ec => if ec = true then some ⟨a, t, 1, i, fl, of_, s, d, o, b, .icmp mt mc ms mr mb, mr / 65536 % 65536, mr / 65536 % 65536, 0, [], 0⟩
  else (icmp_Error.f mt mc ms mr mb).bind fun er => if er = true then (if ok = true then some ⟨a, t, 1, i, fl, of_, s, d, o, b, .icmp mt mc ms mr mb, 0, 0, 0, l, 0⟩ else some (LK.err 21)) else some (LK.err 21)
  else some (LK.err 22) else some (LK.err e)
def rewrite_look.f (k : Nat) (l : List Int) : Option LK :=
 (ip_Parse.f k l).bind fun ⟨a, t, pr, i, fl, of_, s, d, o, b, e⟩ => if e = 0 then
  if pr = 17 then lookUdp k a t i fl of_ s d o b else if pr = 6 then lookTcp k a t i fl of_ s d o b else if pr = 1 then lookIcmp k a t i fl of_ s d o b else some (LK.err 21)
 else some (LK.err e)
def LK.Post (r : LK) (base : Nat) (w0 : World) (e : Ending) (w' : World) : Prop :=
 ∃ v8 v9 vx vi : Value, e = .returned (.tuple #[.agg #[.int .u8 r.a, .int .u8 r.t, .int .u8 r.pr, .int .u16 r.i, .int .u8 r.fl, .int .u16 r.of_, .int .u32 r.s, .int .u32 r.d, v8, v9], vx, .agg #[.int .u8 r.pr, .int .u32 r.s, .int .u16 r.sp, .int .u32 r.d, .int .u16 r.dp, .int .u8 r.ff, vi], .int .i64 r.e]) /\ Kd.R (Kd.int .u8) 5 w' base (fun _ => True) v8 r.o /\ Kd.R (Kd.int .u8) 5 w' base (fun _ => True) v9 r.b /\ r.x.V w' base vx /\ Kd.R k65 65 w' base (fun _ => True) vi r.inn /\ Below base w0 w'
def look.R9.T : Bool × List (List Nat × List Nat) := (true, [([], []), ([], []), ([0, 0], [0]), ([2, 0, 2], []), ([1, 3, 0, 1, 2, 3], [1]), ([4, 0, 1, 2, 3, 4], [])])
theorem look.R9.tab : rtab .any (opsOf Try.f69 9) = look.R9.T := by kernel_rfl
theorem look.R9.bits : waitsOk look.R9.T.2 [0, 0, 1, 5, 15, 31] = true := by kernel_rfl
def look.R21.T : Bool × List (List Nat × List Nat) := (true, [([], []), ([0], [0]), ([1], [1]), ([], []), ([3], [3]), ([4], [4]), ([0, 1, 2], []), ([6, 0, 1, 2], [6]), ([7, 2, 0, 1, 2], [2, 7]), ([0, 1, 2, 3, 4, 5, 6, 7, 8], []), ([9, 0, 1, 2, 3, 4, 5, 6, 7, 8], [9]), ([10, 5, 8, 0, 1, 2, 3, 4, 5, 6, 7, 8], [5, 10])])
theorem look.R21.tab : rtab .any (opsOf Try.f69 21) = look.R21.T := by kernel_rfl
theorem look.R21.bits : waitsOk look.R21.T.2 [0, 1, 3, 0, 8, 24, 7, 71, 199, 511, 1023, 2047] = true := by kernel_rfl
def look.R25.T : Bool × List (List Nat × List Nat) := (true, [([], []), ([], []), ([], []), ([0, 0], [0]), ([1, 3, 0, 1, 3], [1]), ([2, 4, 0, 1, 2, 3, 4], [2]), ([5, 0, 1, 2, 3, 4, 5], [])])
theorem look.R25.tab : rtab .any (opsOf Try.f69 25) = look.R25.T := by kernel_rfl
theorem look.R25.bits : waitsOk look.R25.T.2 [0, 0, 0, 1, 11, 31, 63] = true := by kernel_rfl
def look.R7.T : Bool × List (List Nat × List Nat) := (true, [([], []), ([], []), ([], []), ([0, 0], [0]), ([3, 0, 3], []), ([1, 4, 0, 1, 3, 4], [1]), ([2, 5, 0, 1, 2, 3, 4, 5], [2])])
theorem look.R7.tab : rtab .any (opsOf Try.f69 7) = look.R7.T := by kernel_rfl
theorem look.R7.bits : waitsOk look.R7.T.2 [0, 0, 0, 1, 9, 27, 63] = true := by kernel_rfl
def look.R24.T : Bool × List (List Nat × List Nat) := (true, [([], []), ([0], [0]), ([1], [1]), ([], []), ([3], [3]), ([4], [4]), ([], []), ([6], [6]), ([7], [7]), ([0, 1, 2], []), ([9, 0, 1, 2], [9]), ([10, 2, 0, 1, 2], [2, 10]), ([0, 1, 2, 3, 4, 5, 9, 10, 11], []), ([12, 0, 1, 2, 3, 4, 5, 9, 10, 11], [12]), ([13, 5, 11, 0, 1, 2, 3, 4, 5, 9, 10, 11], [5, 13]), ([0, 1, 2, 3, 4, 5, 6, 7, 8, 9, 10, 11, 12, 13, 14], []), ([15, 8, 14, 0, 1, 2, 3, 4, 5, 6, 7, 8, 9, 10, 11, 12, 13, 14], [8, 15])])
theorem look.R24.tab : rtab .any (opsOf Try.f69 24) = look.R24.T := by kernel_rfl
theorem look.R24.bits : waitsOk look.R24.T.2 [0, 1, 3, 0, 8, 24, 0, 64, 192, 7, 519, 1543, 3647, 7743, 15935, 32767, 65535] = true := by kernel_rfl
def look.R16.T : Bool × List (List Nat × List Nat) := (true, [([], []), ([0], [0]), ([1], [1]), ([2], [2]), ([], []), ([4], [4]), ([5], [5]), ([6], [6]), ([0, 1, 2, 3], []), ([8, 0, 1, 2, 3], [8]), ([9, 3, 0, 1, 2, 3], [3, 9]), ([0, 1, 2, 3, 4, 5, 6, 7, 8, 9, 10], []), ([11, 0, 1, 2, 3, 4, 5, 6, 7, 8, 9, 10], [11]), ([12, 7, 10, 0, 1, 2, 3, 4, 5, 6, 7, 8, 9, 10], [7, 12])])
theorem look.R16.tab : rtab .any (opsOf Try.f69 16) = look.R16.T := by kernel_rfl
theorem look.R16.bits : waitsOk look.R16.T.2 [0, 1, 3, 7, 0, 16, 48, 112, 15, 271, 783, 2047, 4095, 8191] = true := by kernel_rfl
def look.R18.T : Bool × List (List Nat × List Nat) := (true, [([], []), ([], []), ([0, 0], [0]), ([2, 0, 2], []), ([1, 3, 0, 1, 2, 3], [1]), ([4, 0, 1, 2, 3, 4], [])])
theorem look.R18.tab : rtab .any (opsOf Try.f69 18) = look.R18.T := by kernel_rfl
theorem look.R18.bits : waitsOk look.R18.T.2 [0, 0, 1, 5, 15, 31] = true := by kernel_rfl
def look.R4.T : Bool × List (List Nat × List Nat) := (true, [([], []), ([], []), ([], []), ([0, 0], [0]), ([3, 0, 3], []), ([1, 4, 0, 1, 3, 4], [1]), ([2, 5, 0, 1, 2, 3, 4, 5], [2])])
theorem look.R4.tab : rtab .any (opsOf Try.f69 4) = look.R4.T := by kernel_rfl
theorem look.R4.bits : waitsOk look.R4.T.2 [0, 0, 0, 1, 9, 27, 63] = true := by kernel_rfl
attribute [local go_sem] max2_int min2_int max_two min_two max_three min_three max_four min_four
def tcp_Sum.f (k : Nat) (a0 : Int) (a1 : Int) (a2_0 : Int) (a2_1 : Int) (a2_2 : Int) (a2_3 : Int) (a2_4 : Int) (a2_5 : Int) (a2_6 : Int) (a2_7 : Int) (l2_8 : List Int) (l2_9 : List Int) : Option (Int) := (tcp_total.f k a0 a1 a2_0 a2_1 a2_2 a2_3 a2_4 a2_5 0 a2_7 l2_8 l2_9).bind fun bt723 => (if bt723.2 = true then (some (Go.bits .xor .u16 IntKind.u16.max bt723.1)) else (some 0))
theorem tcp_Sum.calls (k : Nat) (a0 : Int) (a1 : Int) (a2_0 : Int) (a2_1 : Int) (a2_2 : Int) (a2_3 : Int) (a2_4 : Int) (a2_5 : Int) (a2_6 : Int) (a2_7 : Int) (A2_8 : Option Addr) (c2_8 : Nat) (l2_8 : List Int) (A2_9 : Option Addr) (c2_9 : Nat) (l2_9 : List Int) (r : Int) (w : World) (hr2_8 : Kd.C (Kd.int .u8) w A2_8 l2_8.length l2_8) (hc2_8 : l2_8.length <= c2_8) (hr2_9 : Kd.C (Kd.int .u8) w A2_9 l2_9.length l2_9) (hc2_9 : l2_9.length <= c2_9) (h : tcp_Sum.f k a0 a1 a2_0 a2_1 a2_2 a2_3 a2_4 a2_5 a2_6 a2_7 l2_8 l2_9 = some r) :
  Calls Try.prog 109 #[.int .u32 a0, .int .u32 a1, .agg #[.int .u16 a2_0, .int .u16 a2_1, .int .u32 a2_2, .int .u32 a2_3, .int .u8 a2_4, .int .u16 a2_5, .int .u16 a2_6, .int .u16 a2_7, .slice A2_8 l2_8.length c2_8, .slice A2_9 l2_9.length c2_9]] w fun e w' => e = .returned (.int .u16 r) /\ Below w.heap.size w w' := by
 have hu137 := Try.underlying137; have hsg_u16 : IntKind.u16.signed = false := rfl; have HR2_8 := Aside0.mk hr2_8; have HC2_8 := Aside0.mk hc2_8; clear hr2_8 hc2_8; have HR2_9 := Aside0.mk hr2_9; have HC2_9 := Aside0.mk hc2_9; clear hr2_9 hc2_9; have HB := Aside0.mk (Below.refl w.heap.size w); have H : ((tcp_total.f k a0 a1 a2_0 a2_1 a2_2 a2_3 a2_4 a2_5 0 a2_7 l2_8 l2_9).bind fun bt723 => (if bt723.2 = true then (some (Go.bits .xor .u16 IntKind.u16.max bt723.1)) else (some 0))) = some r := h; clear h; replace H := Option.bind_eq_some_iff.mp H; obtain ⟨⟨t723, t724⟩, A40, H⟩ := H
 (try dsimp -simprocs only at H)
 have A4 := Aside0.mk A40; clear A40
 by_cases c5 : t724 = true
 ·subst c5
  have H1 : (some (Go.bits .xor .u16 IntKind.u16.max t723)) = some r := by rw [if_pos rfl] at H; exact H
  clear H; have H := H1; clear H1; obtain rfl := Option.some.inj H
  go_enter Try.func109, Try.ntmps109
  go_wp2_with (first | ((with_reducible refine gate_dst (N := 5) rfl ?_); refine box_event ?hg (N := 5) ?hd (cs := #[.int .u16 a2_0, .int .u16 a2_1, .int .u32 a2_2, .int .u32 a2_3, .int .u8 a2_4, .int .u16 a2_5, .int .u16 a2_6, .int .u16 a2_7, .slice A2_8 l2_8.length c2_8, .slice A2_9 l2_9.length c2_9]) (t := 137) ?hr ?_; (case hd => rfl); (case hg => rfl); (case hr => first | (go_simp; done) | (go_simp; rfl)); intro gb722 hg w6 hbox hb; have n0_ := Aside0.mk (below_step (bz HB) hb); have n1_ := Aside0.mk (hbox); have n2_ := Aside0.mk ((by rw [hg]; exact (below_size (bz HB)) : w.heap.size <= gb722)); have n3_ := Aside0.mk ((by rw [hg]; exact (below_size (bz HB)) : w.heap.size <= gb722)); clear HB; have HB := n0_; have BK722 := n1_; have GW722 := n2_; have GE722 := n3_; clear n0_ n1_ n2_ n3_; clear hb hbox hg; have hcz7_0 : w6.cell? ⟨gb722, 0, none⟩ = some (.int .u16 a2_0) := cz BK722.out 0 rfl; have hcz7_1 : w6.cell? ⟨gb722, 1, none⟩ = some (.int .u16 a2_1) := cz BK722.out 1 rfl; have hcz7_2 : w6.cell? ⟨gb722, 2, none⟩ = some (.int .u32 a2_2) := cz BK722.out 2 rfl; have hcz7_3 : w6.cell? ⟨gb722, 3, none⟩ = some (.int .u32 a2_3) := cz BK722.out 3 rfl; have hcz7_4 : w6.cell? ⟨gb722, 4, none⟩ = some (.int .u8 a2_4) := cz BK722.out 4 rfl; have hcz7_5 : w6.cell? ⟨gb722, 5, none⟩ = some (.int .u16 a2_5) := cz BK722.out 5 rfl; have hcz7_6 : w6.cell? ⟨gb722, 6, none⟩ = some (.int .u16 a2_6) := cz BK722.out 6 rfl; have hcz7_7 : w6.cell? ⟨gb722, 7, none⟩ = some (.int .u16 a2_7) := cz BK722.out 7 rfl; have hcz7_8 : w6.cell? ⟨gb722, 8, none⟩ = some (.slice A2_8 l2_8.length c2_8) := cz BK722.out 8 rfl; have hcz7_9 : w6.cell? ⟨gb722, 9, none⟩ = some (.slice A2_9 l2_9.length c2_9) := cz BK722.out 9 rfl; have hfz7_0 := blk_frozen BK722.out 0; have hfz7_1 := blk_frozen BK722.out 1; have hfz7_2 := blk_frozen BK722.out 2; have hfz7_3 := blk_frozen BK722.out 3; have hfz7_4 := blk_frozen BK722.out 4; have hfz7_5 := blk_frozen BK722.out 5; have hfz7_6 := blk_frozen BK722.out 6; have hfz7_7 := blk_frozen BK722.out 7; have hfz7_8 := blk_frozen BK722.out 8; have hfz7_9 := blk_frozen BK722.out 9) | ((with_reducible refine gate_callee (f := 126) rfl ?_); refine gL 14 Try.func126 #[.int .u32 a0, .int .u32 a1, .agg #[.int .u16 a2_0, .int .u16 a2_1, .int .u32 a2_2, .int .u32 a2_3, .int .u8 a2_4, .int .u16 a2_5, .int .u16 0, .int .u16 a2_7, .slice A2_8 l2_8.length c2_8, .slice A2_9 l2_9.length c2_9]] ?_; (with_reducible refine (tcp_total.calls k a0 a1 a2_0 a2_1 a2_2 a2_3 a2_4 a2_5 0 a2_7 _ _ l2_8 _ _ l2_9 t723 true _ ?side1 ?side2 ?side3 ?side4 A4.out).mono ?_); (case side1 => exact Kd.C_below HR2_8.out (bz HB)); (case side2 => exact HC2_8.out); (case side3 => exact Kd.C_below HR2_9.out (bz HB)); (case side4 => exact HC2_9.out); rintro e w8 ⟨rfl, hb⟩; refine ⟨_, rfl, ?_⟩; have n0_ := Aside0.mk (blk_below (g := gb722) (o := .cells #[.int .u16 a2_0, .int .u16 a2_1, .int .u32 a2_2, .int .u32 a2_3, .int .u8 a2_4, .int .u16 a2_5, .int .u16 0, .int .u16 a2_7, .slice A2_8 l2_8.length c2_8, .slice A2_9 l2_9.length c2_9] 137 (0, 0)) (by (with_reducible repeat (first | refine blk_drewN ?_ _ | refine blk_drew ?_ | refine blk_alloc ?_ _)); refine blk_put (cs := #[.int .u16 a2_0, .int .u16 a2_1, .int .u32 a2_2, .int .u32 a2_3, .int .u8 a2_4, .int .u16 a2_5, .int .u16 a2_6, .int .u16 a2_7, .slice A2_8 l2_8.length c2_8, .slice A2_9 l2_9.length c2_9]) ?_ 6 _ rfl; (with_reducible repeat (first | refine blk_drewN ?_ _ | refine blk_drew ?_ | refine blk_alloc ?_ _)); exact BK722.out) hb); have n1_ := Aside0.mk (below_step (bz HB) hb); clear BK722; clear HB; have BK722 := n0_; have HB := n1_; clear n0_ n1_; (try clear hb); (try clear hb2); (try clear hk); (try clear hi)))
  go_ret
  exact ⟨by first | rfl | (simp [errW_none, errW_some] <;> rfl) | (simp [*, errW_none, errW_some] <;> rfl), bz HB⟩
 ·replace c5 := Bool.eq_false_iff.mpr c5
  subst c5; have H1 : (some 0) = some r := by rw [if_neg (show ¬ (false = true) by decide)] at H; exact H
  clear H; have H := H1; clear H1; obtain rfl := Option.some.inj H
  go_enter Try.func109, Try.ntmps109
  go_wp2_with (first | ((with_reducible refine gate_dst (N := 5) rfl ?_); refine box_event ?hg (N := 5) ?hd (cs := #[.int .u16 a2_0, .int .u16 a2_1, .int .u32 a2_2, .int .u32 a2_3, .int .u8 a2_4, .int .u16 a2_5, .int .u16 a2_6, .int .u16 a2_7, .slice A2_8 l2_8.length c2_8, .slice A2_9 l2_9.length c2_9]) (t := 137) ?hr ?_; (case hd => rfl); (case hg => rfl); (case hr => first | (go_simp; done) | (go_simp; rfl)); intro gb722 hg w9 hbox hb; have n0_ := Aside0.mk (below_step (bz HB) hb); have n1_ := Aside0.mk (hbox); have n2_ := Aside0.mk ((by rw [hg]; exact (below_size (bz HB)) : w.heap.size <= gb722)); have n3_ := Aside0.mk ((by rw [hg]; exact (below_size (bz HB)) : w.heap.size <= gb722)); clear HB; have HB := n0_; have BK722 := n1_; have GW722 := n2_; have GE722 := n3_; clear n0_ n1_ n2_ n3_; clear hb hbox hg; have hcz10_0 : w9.cell? ⟨gb722, 0, none⟩ = some (.int .u16 a2_0) := cz BK722.out 0 rfl; have hcz10_1 : w9.cell? ⟨gb722, 1, none⟩ = some (.int .u16 a2_1) := cz BK722.out 1 rfl; have hcz10_2 : w9.cell? ⟨gb722, 2, none⟩ = some (.int .u32 a2_2) := cz BK722.out 2 rfl; have hcz10_3 : w9.cell? ⟨gb722, 3, none⟩ = some (.int .u32 a2_3) := cz BK722.out 3 rfl; have hcz10_4 : w9.cell? ⟨gb722, 4, none⟩ = some (.int .u8 a2_4) := cz BK722.out 4 rfl; have hcz10_5 : w9.cell? ⟨gb722, 5, none⟩ = some (.int .u16 a2_5) := cz BK722.out 5 rfl; have hcz10_6 : w9.cell? ⟨gb722, 6, none⟩ = some (.int .u16 a2_6) := cz BK722.out 6 rfl; have hcz10_7 : w9.cell? ⟨gb722, 7, none⟩ = some (.int .u16 a2_7) := cz BK722.out 7 rfl; have hcz10_8 : w9.cell? ⟨gb722, 8, none⟩ = some (.slice A2_8 l2_8.length c2_8) := cz BK722.out 8 rfl; have hcz10_9 : w9.cell? ⟨gb722, 9, none⟩ = some (.slice A2_9 l2_9.length c2_9) := cz BK722.out 9 rfl; have hfz10_0 := blk_frozen BK722.out 0; have hfz10_1 := blk_frozen BK722.out 1; have hfz10_2 := blk_frozen BK722.out 2; have hfz10_3 := blk_frozen BK722.out 3; have hfz10_4 := blk_frozen BK722.out 4; have hfz10_5 := blk_frozen BK722.out 5; have hfz10_6 := blk_frozen BK722.out 6; have hfz10_7 := blk_frozen BK722.out 7; have hfz10_8 := blk_frozen BK722.out 8; have hfz10_9 := blk_frozen BK722.out 9) | ((with_reducible refine gate_callee (f := 126) rfl ?_); refine gL 14 Try.func126 #[.int .u32 a0, .int .u32 a1, .agg #[.int .u16 a2_0, .int .u16 a2_1, .int .u32 a2_2, .int .u32 a2_3, .int .u8 a2_4, .int .u16 a2_5, .int .u16 0, .int .u16 a2_7, .slice A2_8 l2_8.length c2_8, .slice A2_9 l2_9.length c2_9]] ?_; (with_reducible refine (tcp_total.calls k a0 a1 a2_0 a2_1 a2_2 a2_3 a2_4 a2_5 0 a2_7 _ _ l2_8 _ _ l2_9 t723 false _ ?side1 ?side2 ?side3 ?side4 A4.out).mono ?_); (case side1 => exact Kd.C_below HR2_8.out (bz HB)); (case side2 => exact HC2_8.out); (case side3 => exact Kd.C_below HR2_9.out (bz HB)); (case side4 => exact HC2_9.out); rintro e w11 ⟨rfl, hb⟩; refine ⟨_, rfl, ?_⟩; have n0_ := Aside0.mk (blk_below (g := gb722) (o := .cells #[.int .u16 a2_0, .int .u16 a2_1, .int .u32 a2_2, .int .u32 a2_3, .int .u8 a2_4, .int .u16 a2_5, .int .u16 0, .int .u16 a2_7, .slice A2_8 l2_8.length c2_8, .slice A2_9 l2_9.length c2_9] 137 (0, 0)) (by (with_reducible repeat (first | refine blk_drewN ?_ _ | refine blk_drew ?_ | refine blk_alloc ?_ _)); refine blk_put (cs := #[.int .u16 a2_0, .int .u16 a2_1, .int .u32 a2_2, .int .u32 a2_3, .int .u8 a2_4, .int .u16 a2_5, .int .u16 a2_6, .int .u16 a2_7, .slice A2_8 l2_8.length c2_8, .slice A2_9 l2_9.length c2_9]) ?_ 6 _ rfl; (with_reducible repeat (first | refine blk_drewN ?_ _ | refine blk_drew ?_ | refine blk_alloc ?_ _)); exact BK722.out) hb); have n1_ := Aside0.mk (below_step (bz HB) hb); clear BK722; clear HB; have BK722 := n0_; have HB := n1_; clear n0_ n1_; (try clear hb); (try clear hb2); (try clear hk); (try clear hi)))
  go_ret
  exact ⟨by first | rfl | (simp [errW_none, errW_some] <;> rfl) | (simp [*, errW_none, errW_some] <;> rfl), bz HB⟩
def icmp_Sum.f (k : Nat) (a0_0 : Int) (a0_1 : Int) (a0_2 : Int) (a0_3 : Int) (l0_4 : List Int) : Option (Int) := (icmp_Bytes.f a0_0 a0_1 0 a0_3 l0_4).bind fun bt726 => (if bt726.2 = 0 then ((sum_Of.f k bt726.1).bind fun t730 => (some t730)) else (some 0))
theorem icmp_Sum.calls (k : Nat) (a0_0 : Int) (a0_1 : Int) (a0_2 : Int) (a0_3 : Int) (A0_4 : Option Addr) (c0_4 : Nat) (l0_4 : List Int) (r : Int) (w : World) (hr0_4 : Kd.C (Kd.int .u8) w A0_4 l0_4.length l0_4) (hc0_4 : l0_4.length <= c0_4) (h : icmp_Sum.f k a0_0 a0_1 a0_2 a0_3 l0_4 = some r) :
  Calls Try.prog 111 #[.agg #[.int .u8 a0_0, .int .u8 a0_1, .int .u16 a0_2, .int .u32 a0_3, .slice A0_4 l0_4.length c0_4]] w fun e w' => e = .returned (.int .u16 r) /\ Below w.heap.size w w' := by
 have hu101 := Try.underlying101; have HR0_4 := Aside0.mk hr0_4; have HC0_4 := Aside0.mk hc0_4; clear hr0_4 hc0_4; have HB := Aside0.mk (Below.refl w.heap.size w); have H : ((icmp_Bytes.f a0_0 a0_1 0 a0_3 l0_4).bind fun bt726 => (if bt726.2 = 0 then ((sum_Of.f k bt726.1).bind fun t730 => (some t730)) else (some 0))) = some r := h; clear h; replace H := Option.bind_eq_some_iff.mp H; obtain ⟨⟨t726, t729⟩, A20, H⟩ := H
 (try dsimp -simprocs only at H)
 have A2 := Aside0.mk A20; clear A20
 by_cases c3 : t729 = 0
 ·rw [if_pos c3] at H
  have c3b0 : (t729 == 0) = true := beq_iff_eq.mpr c3; have c3b1 : (t729 != 0) = false := bne_eq_false_iff_eq.mpr c3; clear c3; replace H := Option.bind_eq_some_iff.mp H; obtain ⟨t730, A40, H⟩ := H
  (try dsimp -simprocs only at H)
  have A4 := Aside0.mk A40; clear A40; obtain rfl := Option.some.inj H
  go_enter Try.func111, Try.ntmps111
  go_wp2_with (first | ((with_reducible refine gate_dst (N := 1) rfl ?_); refine box_event ?hg (N := 1) ?hd (cs := #[.int .u8 a0_0, .int .u8 a0_1, .int .u16 a0_2, .int .u32 a0_3, .slice A0_4 l0_4.length c0_4]) (t := 101) ?hr ?_; (case hd => rfl); (case hg => rfl); (case hr => first | (go_simp; done) | (go_simp; rfl)); intro gb725 hg w5 hbox hb; have n0_ := Aside0.mk (below_step (bz HB) hb); have n1_ := Aside0.mk (hbox); have n2_ := Aside0.mk ((by rw [hg]; exact (below_size (bz HB)) : w.heap.size <= gb725)); have n3_ := Aside0.mk ((by rw [hg]; exact (below_size (bz HB)) : w.heap.size <= gb725)); clear HB; have HB := n0_; have BK725 := n1_; have GW725 := n2_; have GE725 := n3_; clear n0_ n1_ n2_ n3_; clear hb hbox hg; have hcz6_0 : w5.cell? ⟨gb725, 0, none⟩ = some (.int .u8 a0_0) := cz BK725.out 0 rfl; have hcz6_1 : w5.cell? ⟨gb725, 1, none⟩ = some (.int .u8 a0_1) := cz BK725.out 1 rfl; have hcz6_2 : w5.cell? ⟨gb725, 2, none⟩ = some (.int .u16 a0_2) := cz BK725.out 2 rfl; have hcz6_3 : w5.cell? ⟨gb725, 3, none⟩ = some (.int .u32 a0_3) := cz BK725.out 3 rfl; have hcz6_4 : w5.cell? ⟨gb725, 4, none⟩ = some (.slice A0_4 l0_4.length c0_4) := cz BK725.out 4 rfl; have hfz6_0 := blk_frozen BK725.out 0; have hfz6_1 := blk_frozen BK725.out 1; have hfz6_2 := blk_frozen BK725.out 2; have hfz6_3 := blk_frozen BK725.out 3; have hfz6_4 := blk_frozen BK725.out 4) | ((with_reducible refine gate_callee (f := 112) rfl ?_); refine gL 8 Try.func112 #[.agg #[.int .u8 a0_0, .int .u8 a0_1, .int .u16 0, .int .u32 a0_3, .slice A0_4 l0_4.length c0_4]] ?_; (with_reducible refine (icmp_Bytes.calls a0_0 a0_1 0 a0_3 _ _ l0_4 t726 t729 _ ?side1 ?side2 A2.out).mono ?_); (case side1 => exact Kd.C_below HR0_4.out (bz HB)); (case side2 => exact HC0_4.out); rintro e w7 ⟨v727, rfl, ho0, hb⟩; refine ⟨_, rfl, ?_⟩; have n0_ := Aside0.mk (Kd.R_lower ho0 (below_size (bz HB))); have n1_ := Aside0.mk (blk_below (g := gb725) (o := .cells #[.int .u8 a0_0, .int .u8 a0_1, .int .u16 0, .int .u32 a0_3, .slice A0_4 l0_4.length c0_4] 101 (0, 0)) (by (with_reducible repeat (first | refine blk_drewN ?_ _ | refine blk_drew ?_ | refine blk_alloc ?_ _)); refine blk_put (cs := #[.int .u8 a0_0, .int .u8 a0_1, .int .u16 a0_2, .int .u32 a0_3, .slice A0_4 l0_4.length c0_4]) ?_ 2 _ rfl; (with_reducible repeat (first | refine blk_drewN ?_ _ | refine blk_drew ?_ | refine blk_alloc ?_ _)); exact BK725.out) hb); have n2_ := Aside0.mk (below_step (bz HB) hb); clear BK725; clear HB; have HO728 := n0_; have BK725 := n1_; have HB := n2_; clear n0_ n1_ n2_; (try clear hb); (try clear hb2); (try clear hk); (try clear hi); (try clear ho0); obtain ⟨Ao8, co8, eo8⟩ := Kd.R_slice HO728.out; subst eo8) | ((with_reducible refine gate_callee (f := 90) rfl ?_); refine gL 14 Try.func90 #[.slice Ao8 t726.length co8] ?_; (with_reducible refine (sum_Of.calls k _ _ t726 t730 _ ?side1 ?side2 A4.out).mono ?_); (case side1 => repeat (first | exact (Kd.R_reads' HO728.out).2.2 | (with_reducible refine Kd.C_alloc ?_ _) | (with_reducible refine Kd.C_drewN ?_ _) | (with_reducible refine Kd.C_drew ?_))); (case side2 => exact (Kd.R_reads' HO728.out).2.1); rintro e w9 ⟨rfl, hb⟩; refine ⟨_, rfl, ?_⟩; have n0_ := Aside0.mk (Kd.R_below (Kd.rz HO728) hb); have n1_ := Aside0.mk (blk_below (kz BK725) hb); have n2_ := Aside0.mk (below_step (bz HB) hb); clear HO728; clear BK725; clear HB; have HO728 := n0_; have BK725 := n1_; have HB := n2_; clear n0_ n1_ n2_; (try clear hb); (try clear hb2); (try clear hk); (try clear hi)))
  go_ret
  exact ⟨by first | rfl | (simp [errW_none, errW_some] <;> rfl) | (simp [*, errW_none, errW_some] <;> rfl), bz HB⟩
 ·rw [if_neg c3] at H
  have c3b0 : (t729 == 0) = false := beq_eq_false_iff_ne.mpr c3; have c3b1 : (t729 != 0) = true := bne_iff_ne.mpr c3; obtain rfl := Option.some.inj H
  go_enter Try.func111, Try.ntmps111
  go_wp2_with (first | ((with_reducible refine gate_dst (N := 1) rfl ?_); refine box_event ?hg (N := 1) ?hd (cs := #[.int .u8 a0_0, .int .u8 a0_1, .int .u16 a0_2, .int .u32 a0_3, .slice A0_4 l0_4.length c0_4]) (t := 101) ?hr ?_; (case hd => rfl); (case hg => rfl); (case hr => first | (go_simp; done) | (go_simp; rfl)); intro gb725 hg w10 hbox hb; have n0_ := Aside0.mk (below_step (bz HB) hb); have n1_ := Aside0.mk (hbox); have n2_ := Aside0.mk ((by rw [hg]; exact (below_size (bz HB)) : w.heap.size <= gb725)); have n3_ := Aside0.mk ((by rw [hg]; exact (below_size (bz HB)) : w.heap.size <= gb725)); clear HB; have HB := n0_; have BK725 := n1_; have GW725 := n2_; have GE725 := n3_; clear n0_ n1_ n2_ n3_; clear hb hbox hg; have hcz11_0 : w10.cell? ⟨gb725, 0, none⟩ = some (.int .u8 a0_0) := cz BK725.out 0 rfl; have hcz11_1 : w10.cell? ⟨gb725, 1, none⟩ = some (.int .u8 a0_1) := cz BK725.out 1 rfl; have hcz11_2 : w10.cell? ⟨gb725, 2, none⟩ = some (.int .u16 a0_2) := cz BK725.out 2 rfl; have hcz11_3 : w10.cell? ⟨gb725, 3, none⟩ = some (.int .u32 a0_3) := cz BK725.out 3 rfl; have hcz11_4 : w10.cell? ⟨gb725, 4, none⟩ = some (.slice A0_4 l0_4.length c0_4) := cz BK725.out 4 rfl; have hfz11_0 := blk_frozen BK725.out 0; have hfz11_1 := blk_frozen BK725.out 1; have hfz11_2 := blk_frozen BK725.out 2; have hfz11_3 := blk_frozen BK725.out 3; have hfz11_4 := blk_frozen BK725.out 4) | ((with_reducible refine gate_callee (f := 112) rfl ?_); refine gL 8 Try.func112 #[.agg #[.int .u8 a0_0, .int .u8 a0_1, .int .u16 0, .int .u32 a0_3, .slice A0_4 l0_4.length c0_4]] ?_; (with_reducible refine (icmp_Bytes.calls a0_0 a0_1 0 a0_3 _ _ l0_4 t726 t729 _ ?side1 ?side2 A2.out).mono ?_); (case side1 => exact Kd.C_below HR0_4.out (bz HB)); (case side2 => exact HC0_4.out); rintro e w12 ⟨v727, rfl, ho0, hb⟩; refine ⟨_, rfl, ?_⟩; have n0_ := Aside0.mk (Kd.R_lower ho0 (below_size (bz HB))); have n1_ := Aside0.mk (blk_below (g := gb725) (o := .cells #[.int .u8 a0_0, .int .u8 a0_1, .int .u16 0, .int .u32 a0_3, .slice A0_4 l0_4.length c0_4] 101 (0, 0)) (by (with_reducible repeat (first | refine blk_drewN ?_ _ | refine blk_drew ?_ | refine blk_alloc ?_ _)); refine blk_put (cs := #[.int .u8 a0_0, .int .u8 a0_1, .int .u16 a0_2, .int .u32 a0_3, .slice A0_4 l0_4.length c0_4]) ?_ 2 _ rfl; (with_reducible repeat (first | refine blk_drewN ?_ _ | refine blk_drew ?_ | refine blk_alloc ?_ _)); exact BK725.out) hb); have n2_ := Aside0.mk (below_step (bz HB) hb); clear BK725; clear HB; have HO728 := n0_; have BK725 := n1_; have HB := n2_; clear n0_ n1_ n2_; (try clear hb); (try clear hb2); (try clear hk); (try clear hi); (try clear ho0)))
  go_ret
  exact ⟨by first | rfl | (simp [errW_none, errW_some] <;> rfl) | (simp [*, errW_none, errW_some] <;> rfl), bz HB⟩
def rewrite_own.f (l0 : List Int) : Option (List Int × Int) := if 2 <= (l0.length : Int) then ((rewrite_two.f (l0.drop 2)).bind fun t734 => (if 0 <= t734 then (if t734 <= (l0.length : Int) then ((slices_Clone_byte_byte.f (l0.take (t734 : Int).toNat)).bind fun t736 => (if 0 < (l0.length : Int) then (some (t736, wrap64 (4 * (wrap64 (Go.bits .and .u8 (rd l0 0) 15))))) else (none))) else (none)) else (none))) else (none)
def rewrite_own.T1 : Bool × List (List Nat × List Nat) := (true, [([], []), ([], []), ([1], [1]), ([2], [2]), ([0, 3], [0, 3]), ([4, 3], [4]), ([], []), ([6], [6]), ([7], [7]), ([8], [8]), ([9], [9]), ([10], [10]), ([5, 5, 0, 1, 2, 3, 4, 5], [5]), ([11, 12, 0, 1, 2, 3, 4, 5, 6, 7, 8, 9, 10, 11, 12], [11])])
def rewrite_own.B1 : List Nat := [0, 0, 2, 6, 15, 31, 0, 64, 192, 448, 960, 1984, 63, 8191]
theorem rewrite_own.tab1 : rtab .any (opsOf Try.f77 1) = rewrite_own.T1 := by kernel_rfl
theorem rewrite_own.bits1 : waitsOk rewrite_own.T1.2 rewrite_own.B1 = true := by kernel_rfl
theorem rewrite_own.calls (A0 : Option Addr) (c0 : Nat) (l0 : List Int) (r1 : List Int) (r2 : Int) (w : World) (hr0 : Kd.C (Kd.int .u8) w A0 l0.length l0) (hc0 : l0.length <= c0) (h : rewrite_own.f l0 = some (r1, r2)) :
  Calls Try.prog 77 #[.slice A0 l0.length c0] w fun e w' => ∃ v0_ : Value, e = .returned (.tuple #[v0_, .int .i64 r2]) /\ Kd.R (Kd.int .u8) 5 w' w.heap.size (fun _ => True) v0_ r1 /\ Below w.heap.size w w' := by
 have HR0 := Aside0.mk hr0; have HC0 := Aside0.mk hc0; clear hr0 hc0; have HB := Aside0.mk (Below.refl w.heap.size w); have H : (if 2 <= (l0.length : Int) then ((rewrite_two.f (l0.drop 2)).bind fun t734 => (if 0 <= t734 then (if t734 <= (l0.length : Int) then ((slices_Clone_byte_byte.f (l0.take (t734 : Int).toNat)).bind fun t736 => (if 0 < (l0.length : Int) then (some (t736, wrap64 (4 * (wrap64 (Go.bits .and .u8 (rd l0 0) 15))))) else (none))) else (none)) else (none))) else (none)) = some (r1, r2) := h; clear h
 by_cases c2 : 2 <= (l0.length : Int)
 ·rw [if_pos c2] at H
  have c2b0 := eq_true c2; have c2b1 : decide (2 <= (l0.length : Int)) = true := decide_eq_true c2; clear c2; replace H := Option.bind_eq_some_iff.mp H; obtain ⟨t734, A30, H⟩ := H
  (try dsimp -simprocs only at H)
  have A3 := Aside0.mk A30; clear A30
  by_cases c4 : 0 <= t734
  ·rw [if_pos c4] at H
   have c4b0 := eq_true c4; have c4b1 : decide (0 <= t734) = true := decide_eq_true c4; clear c4
   by_cases c5 : t734 <= (l0.length : Int)
   ·rw [if_pos c5] at H
    have c5b0 := eq_true c5; have c5b1 : decide (t734 <= (l0.length : Int)) = true := decide_eq_true c5; clear c5; replace H := Option.bind_eq_some_iff.mp H; obtain ⟨t736, A60, H⟩ := H
    (try dsimp -simprocs only at H)
    have A6 := Aside0.mk A60; clear A60
    by_cases c7 : 0 < (l0.length : Int)
    ·rw [if_pos c7] at H
     have c7b0 : decide (0 < (l0.length : Int)) = true := decide_eq_true c7; have c7b1 : decide (0 < l0.length) = true := decide_eq_true (by omega); clear c7; simp only [Option.some.injEq, Prod.mk.injEq] at H
     obtain ⟨rfl, rfl⟩ := H
     go_enter Try.func77, Try.ntmps77
     try go_wp2
     have n0_ := Aside0.mk (below_drew1 HB.out); clear HB; have HB := n0_; clear n0_; obtain ⟨i09, hi09, _, hsz9, _⟩ := info_parts info5; obtain ⟨A9, hcut9, hA9, hC9⟩ := print_drop_of (P := Try.prog) (Value.int .u8) 0 23 5 .i64 Try.underlying23 hi09 hsz9 A0 c0 l0 2 (by omega) odt HC0.out; have HR733 := Aside0.mk (Kd.C_of_reads (h1 := fun _ => rfl) (hA9 _ (Kd.reads_of_C HR0.out))); have HC733 := Aside0.mk hC9; clear hA9 hC9 hi09 hsz9; have p739 : 0 <= (0 : Int) := (by omega)
     have q739 : 0 < (l0.length : Int) := odt; obtain ⟨ad739, e739, hx739_0⟩ := Kd.at_int HR0.out 0 p739 q739; have hw739_0 := hx739_0
     (try rw [show ((0 : Int)).toNat = 0 from rfl] at hw739_0)
     (try rw [show 0 * 1 = 0 from rfl] at hw739_0)
     (try rw [Addr.add_zero'] at hw739_0)
     cases e739
     have qi739 : (0 < l0.length) = True := eq_true (by omega)
     (try rw [show ((0 : Int)).toNat = 0 from rfl] at hx739_0)
     (try rw [Addr.add_zero'] at hx739_0)
     replace hx739_0 := (HB.out.cell (World.block_lt_of_cell? w _ hx739_0)).trans hx739_0; replace p739 := eq_true p739; replace q739 := eq_true q739; refine start_ (n := 14) (S := fun w' => w'.cell? ad739 = some (.int .u8 (rd l0 0))) (ds := []) #[false, false, false, false, false, false, false, false, false, false, false, false, false, false] (by kernel_rfl) rfl rfl (((HB.out.cell (World.block_lt_of_cell? w _ hw739_0)).trans hw739_0)) (fun hHeld => ?_); refine with_tabW rewrite_own.tab1 rewrite_own.bits1 (fun HT_ HW_ => ?_); generalize w.drew = w8 at HB HR733 hx739_0 hHeld |-
     refine pz 0 4 HT_ ?_; refine pz 1 5 HT_ ?_; refine pz 2 6 HT_ ?_; refine pz 6 10 HT_ ?_; refine pz 7 11 HT_ ?_; refine tz 8 12 HT_ HW_ hHeld ?_; refine pz 9 13 HT_ ?_; refine pz 10 14 HT_ ?_; refine pz 11 15 HT_ ?_; refine oz 3 (some 7) HT_ (fun K hK => ?_); refine goes_ Try.func87 (by kernel_rfl) rfl #[.slice A9 (l0.drop 2).length (c0 - 2)] (by rfl) rfl rfl (by (try simp only [List.map_toArray, List.map_cons, List.map_nil]); first | done | (rw [show (l0.drop 2).length = (l0.length - 2) from List.length_drop] <;> rfl) | rfl | (simp only [List.length_drop, List.length_take]; rfl) | (go_simp; done) | (simp [Act.eval, IntKind.signed]; done) | (simp [Act.eval, IntKind.signed]; rfl)) ?_
     with_reducible refine (rewrite_two.calls _ _ (l0.drop 2) t734 _ ?side1 ?side2 A3.out).mono ?_
     (case side1 => exact Kd.C_below HR733.out (bz HB))
     (case side2 => exact HC733.out)
     rintro e w' ⟨rfl, ⟨nd, rfl⟩⟩; refine ⟨_, rfl, ?_⟩; obtain ⟨i010, hi010, _, hsz10, _⟩ := info_parts info5; obtain ⟨hcut10, hA10, hC10⟩ := print_take_of (P := Try.prog) (Value.int .u8) 0 23 5 .u16 Try.underlying23 hi010 hsz10 (some ad739) c0 l0 t734 odt odt HC0.out; have HR735 := Aside0.mk (Kd.C_of_reads (h1 := fun _ => rfl) (hA10 _ (Kd.reads_of_C HR0.out))); have HC735 := Aside0.mk hC10; clear hA10 hC10 hi010 hsz10; refine hK.out _ _ (((HB.out.cell (World.block_lt_of_cell? w _ hw739_0)).trans hw739_0)) (fun hHeld => ?_); clear hK K; refine nz 7 ?_; refine pz 4 8 HT_ ?_; refine oz 5 (some 9) HT_ (fun K hK => ?_)
     refine goes_ Try.func97 (by kernel_rfl) rfl #[.slice (some ad739) (l0.take (t734 : Int).toNat).length c0] (by rfl) rfl rfl (by (try simp only [List.map_toArray, List.map_cons, List.map_nil]); first | done | (rw [show (l0.take (t734 : Int).toNat).length = t734.toNat from (by rw [List.length_take]; have h_ : (t734 : Int) <= (l0.length : Int) := odt; omega)] <;> rfl) | rfl | (simp only [List.length_drop, List.length_take]; rfl) | (go_simp; done) | (simp [Act.eval, IntKind.signed]; done) | (simp [Act.eval, IntKind.signed]; rfl)) ?_
     with_reducible refine (slices_Clone_byte_byte.calls _ _ (l0.take (t734 : Int).toNat) t736 _ ?side1 ?side2 A6.out).mono ?_
     (case side1 => exact Kd.C_below HR735.out (bz HB))
     (case side2 => exact HC735.out)
     rintro e w11 ⟨v737, rfl, ho0, hb⟩; refine ⟨_, rfl, ?_⟩; have n0_ := Aside0.mk (Kd.R_lower ho0 (below_size (bz HB))); have n1_ := Aside0.mk (below_step (bz HB) hb); clear HB; have HO738 := n0_; have HB := n1_; clear n0_ n1_
     (try clear hb)
     (try clear hb2)
     (try clear hk)
     (try clear hi)
     (try clear ho0)
     refine hK.out _ _ (((HB.out.cell (World.block_lt_of_cell? w _ hw739_0)).trans hw739_0)) (fun hHeld => ?_); clear hK K; refine nz 9 ?_; refine pz 12 2 HT_ ?_; refine pz 13 3 HT_ ?_; refine dz HT_ ?_
     try go_wp2
     go_ret2
     exact ⟨_, by first | rfl | (simp [errW_none, errW_some] <;> rfl) | (simp [*, errW_none, errW_some] <;> rfl), by (with_reducible repeat (first | apply Kd.R_alloc | apply Kd.R_drewN | apply Kd.R_drew)); exact HO738.out, bz HB⟩
    ·rw [if_neg c7] at H
     exact absurd H (by simp)
   ·rw [if_neg c5] at H
    exact absurd H (by simp)
  ·rw [if_neg c4] at H
   exact absurd H (by simp)
 ·rw [if_neg c2] at H
  exact absurd H (by simp)
attribute [local go_sem] inR179
attribute [local go_sem] inP179
attribute [local go_sem] inR181
attribute [local go_sem] inP181
attribute [local go_sem] inR183
attribute [local go_sem] inP183
attribute [local go_sem] inT179
attribute [local go_sem] inT181
attribute [local go_sem] inT183
attribute [local go_sem] inF179
attribute [local go_sem] inF181
attribute [local go_sem] inF183
theorem RB.V_below {w w1 : World} {base : Nat} {v : Value} {x : RB} (h : x.V w base v) (hb : Below w.heap.size w w1) : x.V w1 base v := by
 cases x with
 | no => exact h
 | udp => obtain ⟨v3, e, h3⟩ := h; exact ⟨v3, e, Kd.R_below h3 hb⟩
 | tcp => obtain ⟨v8, v9, e, h8, h9⟩ := h; exact ⟨v8, v9, e, Kd.R_below h8 hb, Kd.R_below h9 hb⟩
 | icmp => obtain ⟨v4, e, h4⟩ := h; exact ⟨v4, e, Kd.R_below h4 hb⟩
theorem RB.V_off {W w1 : World} {base : Nat} {v : Value} {x : RB} {g t : Nat} {ds : Array Value} (h : Off W w1 g) (hx : x.V W base v) (hg : W.heap[g]? = some (.cells ds t (0, 0))) (ht : 5 ≠ t) : x.V w1 base v := by
 cases x with
 | no => exact hx
 | udp => obtain ⟨v3, e, h3⟩ := hx; exact ⟨v3, e, Off.R h h3 hg ht⟩
 | tcp => obtain ⟨v8, v9, e, h8, h9⟩ := hx; exact ⟨v8, v9, e, Off.R h h8 hg ht, Off.R h h9 hg ht⟩
 | icmp => obtain ⟨v4, e, h4⟩ := hx; exact ⟨v4, e, Off.R h h4 hg ht⟩
theorem mV {w w1 : World} {base : Nat} {v : Value} {x : RB} (h : Aside0 (x.V w base v)) (hb : Below w.heap.size w w1) : Aside0 (x.V w1 base v) := ⟨RB.V_below h.out hb⟩
theorem oV {W w1 : World} {base : Nat} {v : Value} {x : RB} {g t : Nat} {ds : Array Value} (o : Off W w1 g) (h : Aside0 (x.V W base v)) (hg : Aside0 (W.heap[g]? = some (.cells ds t (0, 0)))) (ht : 5 ≠ t) : Aside0 (x.V w1 base v) := ⟨RB.V_off o h.out hg.out ht⟩
def pointed.f (k : Nat) (si sp di dp : Int) : RB -> Option (List Int)
 | .no => none
 | .udp _ _ uc ub => if uc = 0 then (udp_Bytes.f sp dp uc ub).bind fun r => some r.1 else (udp_Sum.f k si di sp dp uc ub).bind fun c => (udp_Bytes.f sp dp c ub).bind fun r => some r.1
 | .tcp _ _ tq ta tf tw tc tu to_ tb => (tcp_Sum.f k si di sp dp tq ta tf tw tc tu to_ tb).bind fun c => (tcp_Bytes.f k sp dp tq ta tf tw c tu to_ tb).bind fun r => some r.1
 | .icmp mt mc ms mr mb => (icmp_Echo.f mt mc ms mr mb).bind fun ec => if ec = true then (icmp_Sum.f k mt mc ms (Go.bits .or .u32 (Go.bits .and .u32 mr 65535) (sp % 4294967296 * 65536 % 4294967296)) mb).bind fun c => (icmp_Bytes.f mt mc c (Go.bits .or .u32 (Go.bits .and .u32 mr 65535) (sp % 4294967296 * 65536 % 4294967296)) mb).bind fun r => some r.1
  else (icmp_Sum.f k mt mc ms mr mb).bind fun c => (icmp_Bytes.f mt mc c mr mb).bind fun r => some r.1
def pointed.R10.T : Bool × List (List Nat × List Nat) := (true, [([], []), ([0], [0]), ([], []), ([2], [2]), ([0, 1], []), ([4, 1, 0, 1], [1, 4]), ([0, 1, 2, 3, 4, 5], []), ([6, 3, 5, 0, 1, 2, 3, 4, 5], [3, 6])])
theorem pointed.R10.tab : rtab .any (opsOf Try.f70 10) = pointed.R10.T := by kernel_rfl
theorem pointed.R10.bits : waitsOk pointed.R10.T.2 [0, 1, 0, 4, 3, 19, 63, 127] = true := by kernel_rfl
def pointed.R16.T : Bool × List (List Nat × List Nat) := (true, [([], []), ([0], [0]), ([], []), ([2], [2]), ([0, 1], []), ([4, 1, 0, 1], [1, 4]), ([0, 1, 2, 3, 4, 5], []), ([6, 3, 5, 0, 1, 2, 3, 4, 5], [3, 6])])
theorem pointed.R16.tab : rtab .any (opsOf Try.f70 16) = pointed.R16.T := by kernel_rfl
theorem pointed.R16.bits : waitsOk pointed.R16.T.2 [0, 1, 0, 4, 3, 19, 63, 127] = true := by kernel_rfl
attribute [local go_sem] inR179
attribute [local go_sem] inP179
attribute [local go_sem] inR181
attribute [local go_sem] inP181
attribute [local go_sem] inR183
attribute [local go_sem] inP183
attribute [local go_sem] inT179
attribute [local go_sem] inT181
attribute [local go_sem] inT183
attribute [local go_sem] inF179
attribute [local go_sem] inF181
attribute [local go_sem] inF183
def Look.R2.T : Bool × List (List Nat × List Nat) := (true, [([], []), ([], []), ([], []), ([0, 0], [0]), ([1, 3, 0, 1, 3], [1]), ([2, 4, 0, 1, 2, 3, 4], [2])])
theorem Look.R2.tab : rtab .any (opsOf Try.f36 2) = Look.R2.T := by kernel_rfl
theorem Look.R2.bits : waitsOk Look.R2.T.2 [0, 0, 0, 1, 11, 31] = true := by kernel_rfl
def LK.Told (r : LK) (base : Nat) (w0 : World) (e : Ending) (w' : World) : Prop :=
 ∃ v8 v9 vi : Value, e = .returned (.tuple #[.agg #[.int .u8 r.a, .int .u8 r.t, .int .u8 r.pr, .int .u16 r.i, .int .u8 r.fl, .int .u16 r.of_, .int .u32 r.s, .int .u32 r.d, v8, v9], .agg #[.int .u8 r.pr, .int .u32 r.s, .int .u16 r.sp, .int .u32 r.d, .int .u16 r.dp, .int .u8 r.ff, vi], .int .i64 r.e]) /\ Kd.R (Kd.int .u8) 5 w' base (fun _ => True) v8 r.o /\ Kd.R (Kd.int .u8) 5 w' base (fun _ => True) v9 r.b /\ Kd.R k65 65 w' base (fun _ => True) vi r.inn /\ Below base w0 w'
theorem rewrite_Look.via (A : Option Addr) (c : Nat) (l : List Int) (r : LK) (w : World) (hC : Kd.C (Kd.int .u8) w A l.length l) (hL : l.length <= c) (h69 : ∀ w2 : World, Kd.C (Kd.int .u8) w2 A l.length l -> Calls Try.prog 69 #[.slice A l.length c] w2 fun e w' => r.Post w2.heap.size w2 e w') :
  Calls Try.prog 36 #[.slice A l.length c] w fun e w' => r.Told w.heap.size w e w' := by
 have hu65 := Try.underlying65; have hu73 := Try.underlying73; have hu76 := Try.underlying76; obtain ⟨a, t, pr, i, fl, of_, s, d, o, b, x, sp, dp, ff, inn, e_⟩ := r; have HB := Aside0.mk (Below.refl w.heap.size w); have HC := Aside0.mk hC; have HL := Aside0.mk hL; have HP := Aside0.mk h69; have HI65 : Aside0 ((Try.prog.info? 65).map (·.size) = some 2) := ⟨by kernel_rfl⟩
 have HI73 : Aside0 ((Try.prog.info? 73).map (·.size) = some 10) := ⟨by kernel_rfl⟩
 have HI76 : Aside0 ((Try.prog.info? 76).map (·.size) = some 7) := ⟨by kernel_rfl⟩
 clear hC hL h69
 go_enter Try.func36, Try.ntmps36
 go_upto_region 1 with (first | ((with_reducible refine gate_dst (N := 2) rfl ?_); refine box_event ?hg_ (N := 2) ?hd_ (cs := #[.int .u8 0, .int .u8 0, .int .u8 0, .int .u16 0, .int .u8 0, .int .u16 0, .int .u32 0, .int .u32 0, .slice none 0 0, .slice none 0 0]) (t := 73) ?hr_ ?_; (case hd_ => rfl); (case hg_ => rfl); (case hr_ => first | (go_simp; done) | (go_simp; rfl)); intro gr hgg_ w1 hbox_ hbb_; have GHXr := Aside0.mk (show w.heap.size <= gr by rw [hgg_]; exact below_size HB.out); have HXr := Aside0.mk hbox_; have hb_ := hbb_; replace HB := mB HB hb_; clear hb_; clear hgg_ hbox_ hbb_) | ((with_reducible refine gate_dst (N := 3) rfl ?_); refine box_event ?hg_ (N := 3) ?hd_ (cs := #[.int .u8 0, .int .u32 0, .int .u16 0, .int .u32 0, .int .u16 0, .int .u8 0, .slice none 0 0]) (t := 76) ?hr_ ?_; (case hd_ => rfl); (case hg_ => rfl); (case hr_ => first | (go_simp; done) | (go_simp; rfl)); intro gq hgg_ w2 hbox_ hbb_; have GHXq := Aside0.mk (show w.heap.size <= gq by rw [hgg_]; exact below_size HB.out); have HXq := Aside0.mk hbox_; have hb_ := hbb_; replace HB := mB HB hb_; replace HXr := mX HXr hb_; clear hb_; clear hgg_ hbox_ hbb_))
 go_wp2_with fail
 refine (HP.out _ (Kd.C_below HC.out HB.out)).mono ?_; rintro ev w3 hpost; obtain ⟨vo, vb, vx, vi, rfl, ho, ho2, hx, hi, hb⟩ := hpost; dsimp only at ho ho2 hx hi
 have HRo := rLow ho HB; obtain ⟨Ao, co, rfl, _, _⟩ := Kd.R_reads ho; clear ho; have HRb := rLow ho2 HB; obtain ⟨Ab, cb, rfl, _, _⟩ := Kd.R_reads ho2; clear ho2; have HRi := Aside0.mk (Kd.R_lower hi (below_size HB.out)); obtain ⟨Ai, ci, rfl, _, _⟩ := Kd.R_reads hi; clear hi; clear hx; have hb_ := hb; replace HB := mB HB hb_; replace HXr := mX HXr hb_; replace HXq := mX HXq hb_; clear hb_; clear hb HP
 (try dsimp only)
 go_upto_region 2 with (first | ((with_reducible refine gate_dst (N := 5) rfl ?_); refine box_event ?hg_ (N := 5) ?hd_ (cs := #[.int .u8 0, .int .u8 0, .int .u8 0, .int .u16 0, .int .u8 0, .int .u16 0, .int .u32 0, .int .u32 0, .slice none 0 0, .slice none 0 0]) (t := 73) ?hr_ ?_; (case hd_ => rfl); (case hg_ => rfl); (case hr_ => first | (go_simp; done) | (go_simp; rfl)); intro gp hgg_ w4 hbox_ hbb_; have GHXp := Aside0.mk (show w.heap.size <= gp by rw [hgg_]; exact below_size HB.out); have HXp := Aside0.mk hbox_; have NE_HXr_HXp : Aside0 (gr ≠ gp) := ⟨by rw [hgg_]; exact (blk_less HXr).out⟩; have hb_ := hbb_; replace HB := mB HB hb_; replace HXr := mX HXr hb_; replace HXq := mX HXq hb_; replace HRo := mR HRo hb_; replace HRb := mR HRb hb_; replace HRi := mI HRi hb_; clear hb_; clear hgg_ hbox_ hbb_) | ((with_reducible refine gate_dst (N := 7) rfl ?_); refine box_event ?hg_ (N := 7) ?hd_ (cs := #[.int .u8 0, .int .u32 0, .int .u16 0, .int .u32 0, .int .u16 0, .int .u8 0, .slice none 0 0]) (t := 76) ?hr_ ?_; (case hd_ => rfl); (case hg_ => rfl); (case hr_ => first | (go_simp; done) | (go_simp; rfl)); intro gf hgg_ w5 hbox_ hbb_; have GHXf := Aside0.mk (show w.heap.size <= gf by rw [hgg_]; exact below_size HB.out); have HXf := Aside0.mk hbox_; have NE_HXq_HXf : Aside0 (gq ≠ gf) := ⟨by rw [hgg_]; exact (blk_less HXq).out⟩; have hb_ := hbb_; replace HB := mB HB hb_; replace HXr := mX HXr hb_; replace HXq := mX HXq hb_; replace HRo := mR HRo hb_; replace HRb := mR HRb hb_; replace HRi := mI HRi hb_; replace HXp := mX HXp hb_; clear hb_; clear hgg_ hbox_ hbb_) | ((refine rw_putrow rfl rfl rfl rfl rfl HXp.out HI73.out rfl (by simp [Value.oneCell']) ?_); intro w6 hs_ off_; replace HXr := oN off_ HXr NE_HXr_HXp; replace HXq := oX off_ HXq HXp (by decide); replace HRo := oR off_ HRo HXp (by decide); replace HRb := oR off_ HRb HXp (by decide); replace HRi := oI off_ HRi HXp (by decide); replace HXf := oX off_ HXf HXp (by decide); replace HB := oB off_ HB GHXp; clear off_; replace HXp := Aside0.mk hs_; clear hs_) | ((refine rw_putrow rfl rfl rfl rfl rfl HXf.out HI76.out rfl (by simp [Value.oneCell']) ?_); intro w7 hs_ off_; replace HXr := oX off_ HXr HXf (by decide); replace HXq := oN off_ HXq NE_HXq_HXf; replace HRo := oR off_ HRo HXf (by decide); replace HRb := oR off_ HRb HXf (by decide); replace HRi := oI off_ HRi HXf (by decide); replace HXp := oX off_ HXp HXf (by decide); replace HB := oB off_ HB GHXf; clear off_; replace HXf := Aside0.mk hs_; clear hs_))
 refine start_ (n := 6) (S := fun w' => w'.heap[gp]? = some (.cells #[.int .u8 a, .int .u8 t, .int .u8 pr, .int .u16 i, .int .u8 fl, .int .u16 of_, .int .u32 s, .int .u32 d, .slice Ao o.length co, .slice Ab b.length cb] 73 (0, 0)) /\ w'.heap[gf]? = some (.cells #[.int .u8 pr, .int .u32 s, .int .u16 sp, .int .u32 d, .int .u16 dp, .int .u8 ff, .slice Ai inn.length ci] 76 (0, 0))) (ds := []) #[false, false, false, false, false, false] (by kernel_rfl) rfl rfl ⟨HXp.out, HXf.out⟩ (fun hHeld => ?_); refine with_tabW Look.R2.tab Look.R2.bits (fun HT_ HW_ => ?_); have hb_ := below_drew1 (Below.refl w7.heap.size w7); replace HB := mB HB hb_; replace HXr := mX HXr hb_; replace HXq := mX HXq hb_; replace HRo := mR HRo hb_; replace HRb := mR HRb hb_; replace HRi := mI HRi hb_; replace HXp := mX HXp hb_; replace HXf := mX HXf hb_; clear hb_
 generalize w7.drew = w8 at HB HXr HXq HRo HRb HRi HXp HXf hHeld |-
 refine pz 2 18 HT_ ?_; refine tv 0 16 (.agg #[.int .u8 a, .int .u8 t, .int .u8 pr, .int .u16 i, .int .u8 fl, .int .u16 of_, .int .u32 s, .int .u32 d, .slice Ao o.length co, .slice Ab b.length cb]) HT_ HW_ hHeld ?_ ?_
 ·intro w' s0
  obtain ⟨s0, s1⟩ := s0; exact rw_load (p := .tmp 5) (ty := 73) (by rfl) (by rfl) s0 hu73 (by rfl) HI73.out
 refine nz 16 ?_; refine tv 1 17 (.agg #[.int .u8 pr, .int .u32 s, .int .u16 sp, .int .u32 d, .int .u16 dp, .int .u8 ff, .slice Ai inn.length ci]) HT_ HW_ hHeld ?_ ?_
 ·intro w' s0
  obtain ⟨s0, s1⟩ := s0; exact rw_load (p := .tmp 7) (ty := 76) (by rfl) (by rfl) s1 hu76 (by rfl) HI76.out
 refine nz 17 ?_; refine oz 3 (none) HT_ (fun K hK => ?_); refine skip_row (by rfl) (by rfl) rfl rfl rfl HXr.out HI73.out rfl (by simp [Value.oneCell']) ?_; intro w9 hs_ off_; replace HXq := oX off_ HXq HXr (by decide); replace HRo := oR off_ HRo HXr (by decide); replace HRb := oR off_ HRb HXr (by decide); replace HRi := oI off_ HRi HXr (by decide); replace HXp := oN off_ HXp (ne_sym NE_HXr_HXp); replace HXf := oX off_ HXf HXr (by decide); replace HB := oB off_ HB GHXr; clear off_; replace HXr := Aside0.mk hs_; clear hs_; refine hK.out _ _ ⟨HXp.out, HXf.out⟩ (fun hHeld => ?_); clear hK K; refine oz 4 (none) HT_ (fun K hK => ?_); refine skip_row (by rfl) (by rfl) rfl rfl rfl HXq.out HI76.out rfl (by simp [Value.oneCell']) ?_; intro w10 hs_ off_; replace HXr := oX off_ HXr HXq (by decide); replace HRo := oR off_ HRo HXq (by decide); replace HRb := oR off_ HRb HXq (by decide)
 replace HRi := oI off_ HRi HXq (by decide); replace HXp := oX off_ HXp HXq (by decide); replace HXf := oN off_ HXf (ne_sym NE_HXq_HXf); replace HB := oB off_ HB GHXq; clear off_; replace HXq := Aside0.mk hs_; clear hs_; refine hK.out _ _ ⟨HXp.out, HXf.out⟩ (fun hHeld => ?_); clear hK K; refine pz 5 4 HT_ ?_; refine dz HT_ ?_; clear HT_ HW_ hHeld
 (try dsimp only)
 go_wp2
 (try simp only [Exit.inBlock, Exit.then])
 refine bodyPost_ret (results_cct rfl _ _ gr gq 73 76 #[.int .u8 a, .int .u8 t, .int .u8 pr, .int .u16 i, .int .u8 fl, .int .u16 of_, .int .u32 s, .int .u32 d, .slice Ao o.length co, .slice Ab b.length cb] #[.int .u8 pr, .int .u32 s, .int .u16 sp, .int .u32 d, .int .u16 dp, .int .u8 ff, .slice Ai inn.length ci] (0, 0) (0, 0) _ _ rfl HXr.out hu73 rfl HI73.out rfl HXq.out hu76 rfl HI76.out) rfl ?_; exact ⟨_, _, _, rfl, HRo.out, HRb.out, HRi.out, HB.out⟩
attribute [local go_sem] inR179
attribute [local go_sem] inP179
attribute [local go_sem] inR181
attribute [local go_sem] inP181
attribute [local go_sem] inR183
attribute [local go_sem] inP183
attribute [local go_sem] inT179
attribute [local go_sem] inT181
attribute [local go_sem] inT183
attribute [local go_sem] inF179
attribute [local go_sem] inF181
attribute [local go_sem] inF183
theorem look.lk_icmp (k : Nat) (A : Option Addr) (c : Nat) (l : List Int) (a t i fl of_ s d : Int) (o b : List Int) (r : LK) (w : World) (hC : Kd.C (Kd.int .u8) w A l.length l) (hL : l.length <= c) (hP : ip_Parse.f k l = some (a, t, 1, i, fl, of_, s, d, o, b, 0)) (h : lookIcmp k a t i fl of_ s d o b = some r) :
  Calls Try.prog 69 #[.slice A l.length c] w fun e w' => r.Post w.heap.size w e w' := by
 have hu73 := Try.underlying73; have hu76 := Try.underlying76; have hu83 := Try.underlying83; have hu137 := Try.underlying137; have hu101 := Try.underlying101; have hu179 := Try.underlying179; have hu181 := Try.underlying181; have hu183 := Try.underlying183; have HB := Aside0.mk (Below.refl w.heap.size w); have HC := Aside0.mk hC; have HL := Aside0.mk hL; have HP := Aside0.mk hP; have HF := Aside0.mk h; have HI73 : Aside0 ((Try.prog.info? 73).map (·.size) = some 10) := ⟨by kernel_rfl⟩
 have HI76 : Aside0 ((Try.prog.info? 76).map (·.size) = some 7) := ⟨by kernel_rfl⟩
 have HI83 : Aside0 ((Try.prog.info? 83).map (·.size) = some 4) := ⟨by kernel_rfl⟩
 have HI137 : Aside0 ((Try.prog.info? 137).map (·.size) = some 10) := ⟨by kernel_rfl⟩
 have HI101 : Aside0 ((Try.prog.info? 101).map (·.size) = some 5) := ⟨by kernel_rfl⟩
 have HI179 : Aside0 ((Try.prog.info? 179).map (·.size) = some 4) := ⟨by kernel_rfl⟩
 have HI181 : Aside0 ((Try.prog.info? 181).map (·.size) = some 10) := ⟨by kernel_rfl⟩
 have HI183 : Aside0 ((Try.prog.info? 183).map (·.size) = some 5) := ⟨by kernel_rfl⟩
 clear hC hL hP h
 go_enter Try.func69, Try.ntmps69
 go_upto_region 2 with (first | ((with_reducible refine gate_dst (N := 2) rfl ?_); refine box_event ?hg_ (N := 2) ?hd_ (cs := #[.int .u8 0, .int .u8 0, .int .u8 0, .int .u16 0, .int .u8 0, .int .u16 0, .int .u32 0, .int .u32 0, .slice none 0 0, .slice none 0 0]) (t := 73) ?hr_ ?_; (case hd_ => rfl); (case hg_ => rfl); (case hr_ => first | (go_simp; done) | (go_simp; rfl)); intro gi hgg_ w1 hbox_ hbb_; have GHXi := Aside0.mk (show w.heap.size <= gi by rw [hgg_]; exact below_size HB.out); have HXi := Aside0.mk hbox_; have hb_ := hbb_; replace HB := mB HB hb_; clear hb_; clear hgg_ hbox_ hbb_) | ((with_reducible refine gate_dst (N := 4) rfl ?_); refine box_event ?hg_ (N := 4) ?hd_ (cs := #[.int .u8 0, .int .u32 0, .int .u16 0, .int .u32 0, .int .u16 0, .int .u8 0, .slice none 0 0]) (t := 76) ?hr_ ?_; (case hd_ => rfl); (case hg_ => rfl); (case hr_ => first | (go_simp; done) | (go_simp; rfl)); intro gq hgg_ w2 hbox_ hbb_; have GHXq := Aside0.mk (show w.heap.size <= gq by rw [hgg_]; exact below_size HB.out); have HXq := Aside0.mk hbox_; have hb_ := hbb_; replace HB := mB HB hb_; replace HXi := mX HXi hb_; clear hb_; clear hgg_ hbox_ hbb_) | ((refine rw_newrow rfl rfl rfl rfl rfl HI76.out rfl (by simp [Value.oneCell']) ?_); intro x_new hx_ hbn_))
 revert x_new hx_ hbn_; intro w3 hx_ hbn_; have HXn : Aside0 (w3.heap[w2.heap.size]? = some (.cells #[.int .u8 0, .int .u32 0, .int .u16 0, .int .u32 0, .int .u16 0, .int .u8 0, .slice none 0 0] 76 (0, 0))) := ⟨hx_⟩
 have GHXn := bsz HB; have NE_HXq_HXn := blk_less HXq; have hb_ := hbn_; replace HB := mB HB hb_; replace HXi := mX HXi hb_; replace HXq := mX HXq hb_; clear hb_; clear hx_ hbn_; generalize w2.heap.size = gn at HXn GHXn NE_HXq_HXn |-
 go_wp2_with fail
 refine (ip_Parse.calls k A c l a t 1 i fl of_ s d o b 0 _ (Kd.C_below HC.out HB.out) HL.out HP.out).mono ?_; rintro ev w4 ⟨vo, vb, rfl, ho, ho2, hb⟩; have HRo := rLow ho HB; obtain ⟨Ao, co, rfl, _, _⟩ := Kd.R_reads ho; clear ho; have HRb := rLow ho2 HB; obtain ⟨Ab, cb, rfl, _, _⟩ := Kd.R_reads ho2; clear ho2; have hb_ := hb; replace HB := mB HB hb_; replace HXi := mX HXi hb_; replace HXq := mX HXq hb_; replace HXn := mX HXn hb_; clear hb_; clear hb HP HC HL
 (try dsimp only)
 go_upto_region 3 with (((refine rw_newrow rfl rfl rfl rfl rfl HI73.out rfl (by simp [Value.oneCell']) ?_); intro x_new hx_ hbn_))
 revert x_new hx_ hbn_; intro w5 hx_ hbn_; have HXp : Aside0 (w5.heap[w4.heap.size]? = some (.cells #[.int .u8 a, .int .u8 t, .int .u8 1, .int .u16 i, .int .u8 fl, .int .u16 of_, .int .u32 s, .int .u32 d, .slice Ao o.length co, .slice Ab b.length cb] 73 (0, 0))) := ⟨hx_⟩
 have GHXp := bsz HB; have NE_HXi_HXp := blk_less HXi; have hb_ := hbn_; replace HB := mB HB hb_; replace HXi := mX HXi hb_; replace HXq := mX HXq hb_; replace HXn := mX HXn hb_; replace HRo := mR HRo hb_; replace HRb := mR HRb hb_; clear hb_; clear hx_ hbn_; generalize w4.heap.size = gp at HXp GHXp NE_HXi_HXp |-
 have H : lookIcmp k a t i fl of_ s d o b = some r := HF.out; clear HF; unfold lookIcmp at H
 obtain ⟨⟨mt, mc, ms, mr, mb, e2⟩, hp, H⟩ := rw_bind H; dsimp only at H
 have HG := Aside0.mk H; clear H; have he1 : ((0 : Int) == 0) = true := rfl; have he2 : ((0 : Int) != 0) = false := rfl
 (try dsimp only)
 go_wp2_with (refine Kd.event_run rfl (rw_load rfl rfl HXp.out Try.underlying73 rfl HI73.out) ?_)
 clear he1 he2; refine (rewrite_of.of_icmp a t i fl of_ s d Ao o.length co Ab cb b mt mc ms mr e2 mb _ (Kd.R_reads' HRb.out).2.2 (Kd.R_reads' HRb.out).2.1 hp).mono ?_; rintro ev w6 ⟨vmb, rfl, hmb, hb⟩; clear hp; have HRmb := rLow hmb HB; obtain ⟨Amb, cmb, rfl, _, _⟩ := Kd.R_reads hmb; clear hmb; have hb_ := hb; replace HB := mB HB hb_; replace HXi := mX HXi hb_; replace HXq := mX HXq hb_; replace HXn := mX HXn hb_; replace HRo := mR HRo hb_; replace HRb := mR HRb hb_; replace HXp := mX HXp hb_; clear hb_; clear hb; have H := HG.out; clear HG
 by_cases ce : e2 = 0
 ·have ce1 : (e2 == 0) = true := beq_iff_eq.2 ce
  have ce2 : (e2 != 0) = false := by rw [bne, ce1]; rfl
  rw [if_pos ce] at H
  clear ce; obtain ⟨rt, hr, H⟩ := rw_bind H; have HG := Aside0.mk H; clear H
  (try dsimp only)
  go_wp2_with (refine Kd.event_run rfl (rw_load rfl rfl HXp.out Try.underlying73 rfl HI73.out) ?_)
  refine (rewrite_message_right.calls k mt mc ms mr Amb cmb mb a t 1 i fl of_ s d Ao co o Ab cb b rt _ (Kd.R_reads' HRmb.out).2.2 (Kd.R_reads' HRmb.out).2.1 (Kd.R_reads' HRo.out).2.2 (Kd.R_reads' HRo.out).2.1 (Kd.R_reads' HRb.out).2.2 (Kd.R_reads' HRb.out).2.1 (by unfold rewrite_message_right.f; rw [hr]; rfl)).mono ?_; rintro ev w7 ⟨rfl, hb⟩; clear hr; have hb_ := hb; replace HB := mB HB hb_; replace HXi := mX HXi hb_; replace HXq := mX HXq hb_; replace HXn := mX HXn hb_; replace HRo := mR HRo hb_; replace HRb := mR HRb hb_; replace HXp := mX HXp hb_; replace HRmb := mR HRmb hb_; clear hb_; clear hb; have H := HG.out; clear HG
  cases rt with
  | false =>
   rw [if_neg (by decide)] at H
   obtain rfl := Option.some.inj H
   (try dsimp only)
   go_upto_region 9 with (fail)
   refine start_ (n := 6) (S := fun w' => w'.heap[gn]? = some (.cells #[.int .u8 0, .int .u32 0, .int .u16 0, .int .u32 0, .int .u16 0, .int .u8 0, .slice none 0 0] 76 (0, 0))) (ds := []) #[false, false, false, false, false, false] (by kernel_rfl) rfl rfl HXn.out (fun hHeld => ?_); refine with_tabW look.R9.tab look.R9.bits (fun HT_ HW_ => ?_); have hb_ := below_drew1 (Below.refl w7.heap.size w7); replace HB := mB HB hb_; replace HXi := mX HXi hb_; replace HXq := mX HXq hb_; replace HXn := mX HXn hb_; replace HRo := mR HRo hb_; replace HRb := mR HRb hb_; replace HXp := mX HXp hb_; replace HRmb := mR HRmb hb_; clear hb_; generalize w7.drew = w8 at HB HXi HXq HXn HRo HRb HXp HRmb hHeld |-
   refine pz 0 41 HT_ ?_; refine tv 1 42 (.agg #[.int .u8 0, .int .u32 0, .int .u16 0, .int .u32 0, .int .u16 0, .int .u8 0, .slice none 0 0]) HT_ HW_ hHeld ?_ ?_
   ·intro w' s0
    exact rw_load (p := .tmp 6) (ty := 76) (by rfl) (by rfl) s0 hu76 (by rfl) HI76.out
   refine nz 42 ?_; refine oz 2 (none) HT_ (fun K hK => ?_); refine skip_row (by rfl) (by rfl) rfl rfl rfl HXi.out HI73.out rfl (by simp [Value.oneCell']) ?_; intro w9 hs_ off_; replace HXq := oX off_ HXq HXi (by decide); replace HXn := oX off_ HXn HXi (by decide); replace HRo := oR off_ HRo HXi (by decide); replace HRb := oR off_ HRb HXi (by decide); replace HXp := oN off_ HXp (ne_sym NE_HXi_HXp); replace HRmb := oR off_ HRmb HXi (by decide); replace HB := oB off_ HB GHXi; clear off_; replace HXi := Aside0.mk hs_; clear hs_; refine hK.out _ _ HXn.out (fun hHeld => ?_); clear hK K; refine pz 3 3 HT_ ?_; refine oz 4 (none) HT_ (fun K hK => ?_); refine skip_row (by rfl) (by rfl) rfl rfl rfl HXq.out HI76.out rfl (by simp [Value.oneCell']) ?_; intro w10 hs_ off_; replace HXi := oX off_ HXi HXq (by decide); replace HXn := oN off_ HXn (ne_sym NE_HXq_HXn)
   replace HRo := oR off_ HRo HXq (by decide); replace HRb := oR off_ HRb HXq (by decide); replace HXp := oX off_ HXp HXq (by decide); replace HRmb := oR off_ HRmb HXq (by decide); replace HB := oB off_ HB GHXq; clear off_; replace HXq := Aside0.mk hs_; clear hs_; refine hK.out _ _ HXn.out (fun hHeld => ?_); clear hK K; refine pz 5 5 HT_ ?_; refine dz HT_ ?_; clear HT_ HW_ hHeld
   (try dsimp only)
   go_wp2
   (try simp only [Exit.inBlock, Exit.then])
   refine bodyPost_ret (results_ctct rfl _ _ gi gq 73 76 #[.int .u8 0, .int .u8 0, .int .u8 0, .int .u16 0, .int .u8 0, .int .u16 0, .int .u32 0, .int .u32 0, .slice none 0 0, .slice none 0 0] #[.int .u8 0, .int .u32 0, .int .u16 0, .int .u32 0, .int .u16 0, .int .u8 0, .slice none 0 0] (0, 0) (0, 0) _ _ rfl HXi.out hu73 rfl HI73.out rfl HXq.out hu76 rfl HI76.out) rfl ?_; exact ⟨_, _, _, _, rfl, Kd.R_nil _ _ _ _ _, Kd.R_nil _ _ _ _ _, rfl, Kd.R_nil _ _ _ _ _, HB.out⟩
  | true =>
   rw [if_pos rfl] at H
   have HG := Aside0.mk H; clear H
   (try dsimp only)
   have gp_2 := cz HXp.out 2 rfl; have gp_6 := cz HXp.out 6 rfl; have gp_7 := cz HXp.out 7 rfl
   go_upto_region 11 with (((refine rw_newrow rfl rfl rfl rfl rfl HI76.out rfl (by simp [Value.oneCell']) ?_); intro x_new hx_ hbn_))
   clear gp_2 gp_6 gp_7; revert x_new hx_ hbn_; intro w8 hx_ hbn_; have HXf : Aside0 (w8.heap[w7.heap.size]? = some (.cells #[.int .u8 1, .int .u32 s, .int .u16 0, .int .u32 d, .int .u16 0, .int .u8 0, .slice none 0 0] 76 (0, 0))) := ⟨hx_⟩
   have GHXf := bsz HB; have NE_HXq_HXf := blk_less HXq; have NE_HXn_HXf := blk_less HXn; have hb_ := hbn_; replace HB := mB HB hb_; replace HXi := mX HXi hb_; replace HXq := mX HXq hb_; replace HXn := mX HXn hb_; replace HRo := mR HRo hb_; replace HRb := mR HRb hb_; replace HXp := mX HXp hb_; replace HRmb := mR HRmb hb_; clear hb_; clear hx_ hbn_; generalize w7.heap.size = gf at HXf GHXf NE_HXq_HXf NE_HXn_HXf |-
   go_wp2_with fail
   refine (rewrite_message_proto.calls mt mc ms mr Amb cmb mb 1 _ (Kd.R_reads' HRmb.out).2.2 (Kd.R_reads' HRmb.out).2.1 rfl).mono ?_; rintro ev w9 ⟨rfl, hb⟩; have hb_ := hb; replace HB := mB HB hb_; replace HXi := mX HXi hb_; replace HXq := mX HXq hb_; replace HXn := mX HXn hb_; replace HRo := mR HRo hb_; replace HRb := mR HRb hb_; replace HXp := mX HXp hb_; replace HRmb := mR HRmb hb_; replace HXf := mX HXf hb_; clear hb_; clear hb
   (try dsimp only)
   go_upto_region 13 with (((refine rw_newrow rfl rfl rfl rfl rfl HI101.out rfl (by simp [Value.oneCell']) ?_); intro x_new hx_ hbn_))
   revert x_new hx_ hbn_; intro w10 hx_ hbn_; have HXm : Aside0 (w10.heap[w9.heap.size]? = some (.cells #[.int .u8 mt, .int .u8 mc, .int .u16 ms, .int .u32 mr, .slice Amb mb.length cmb] 101 (0, 0))) := ⟨hx_⟩
   have GHXm := bsz HB; have hb_ := hbn_; replace HB := mB HB hb_; replace HXi := mX HXi hb_; replace HXq := mX HXq hb_; replace HXn := mX HXn hb_; replace HRo := mR HRo hb_; replace HRb := mR HRb hb_; replace HXp := mX HXp hb_; replace HRmb := mR HRmb hb_; replace HXf := mX HXf hb_; clear hb_; clear hx_ hbn_; generalize w9.heap.size = gm at HXm GHXm |-
   have gm_4 := cz HXm.out 4 rfl; have H := HG.out; clear HG; obtain ⟨⟨il, ok⟩, hin, H⟩ := rw_bind H; dsimp only at H
   have HG := Aside0.mk H; clear H
   go_wp2_with fail
   clear gm_4; refine (rewrite_inner.calls k Amb cmb mb il ok _ (Kd.R_reads' HRmb.out).2.2 (Kd.R_reads' HRmb.out).2.1 hin).mono ?_; rintro ev w11 ⟨vi, rfl, hi, hb⟩; clear hin; have HRi := Aside0.mk (Kd.R_lower hi (below_size HB.out)); obtain ⟨Ai, ci, rfl, _, _⟩ := Kd.R_reads hi; clear hi; have hb_ := hb; replace HB := mB HB hb_; replace HXi := mX HXi hb_; replace HXq := mX HXq hb_; replace HXn := mX HXn hb_; replace HRo := mR HRo hb_; replace HRb := mR HRb hb_; replace HXp := mX HXp hb_; replace HRmb := mR HRmb hb_; replace HXf := mX HXf hb_; replace HXm := mX HXm hb_; clear hb_; clear hb; have H := HG.out; clear HG; obtain ⟨ec, hec, H⟩ := rw_bind H; have HG := Aside0.mk H; clear H
   (try dsimp only)
   go_wp2_with (refine Kd.event_run rfl (rw_load rfl rfl HXm.out Try.underlying101 rfl HI101.out) ?_)
   refine (icmp_Echo.calls mt mc ms mr Amb cmb mb ec _ (Kd.R_reads' HRmb.out).2.2 (Kd.R_reads' HRmb.out).2.1 hec).mono ?_; rintro ev w12 ⟨rfl, hb⟩; clear hec; have hb_ := hb; replace HB := mB HB hb_; replace HXi := mX HXi hb_; replace HXq := mX HXq hb_; replace HXn := mX HXn hb_; replace HRo := mR HRo hb_; replace HRb := mR HRb hb_; replace HXp := mX HXp hb_; replace HRmb := mR HRmb hb_; replace HXf := mX HXf hb_; replace HXm := mX HXm hb_; replace HRi := mI HRi hb_; clear hb_; clear hb; have H := HG.out; clear HG
   cases ec with
   | false =>
    rw [if_neg (by decide)] at H
    obtain ⟨er, her, H⟩ := rw_bind H; have HG := Aside0.mk H; clear H
    (try dsimp only)
    go_wp2_with (refine Kd.event_run rfl (rw_load rfl rfl HXm.out Try.underlying101 rfl HI101.out) ?_)
    refine (icmp_Error.calls mt mc ms mr Amb cmb mb er _ (Kd.R_reads' HRmb.out).2.2 (Kd.R_reads' HRmb.out).2.1 her).mono ?_; rintro ev w13 ⟨rfl, hb⟩; clear her; have hb_ := hb; replace HB := mB HB hb_; replace HXi := mX HXi hb_; replace HXq := mX HXq hb_; replace HXn := mX HXn hb_; replace HRo := mR HRo hb_; replace HRb := mR HRb hb_; replace HXp := mX HXp hb_; replace HRmb := mR HRmb hb_; replace HXf := mX HXf hb_; replace HXm := mX HXm hb_; replace HRi := mI HRi hb_; clear hb_; clear hb; have H := HG.out; clear HG
    cases er with
    | false =>
     rw [if_neg (by decide)] at H
     obtain rfl := Option.some.inj H
     (try dsimp only)
     go_upto_region 18 with (fail)
     refine start_ (n := 6) (S := fun w' => w'.heap[gn]? = some (.cells #[.int .u8 0, .int .u32 0, .int .u16 0, .int .u32 0, .int .u16 0, .int .u8 0, .slice none 0 0] 76 (0, 0))) (ds := []) #[false, false, false, false, false, false] (by kernel_rfl) rfl rfl HXn.out (fun hHeld => ?_); refine with_tabW look.R18.tab look.R18.bits (fun HT_ HW_ => ?_); have hb_ := below_drew1 (Below.refl w13.heap.size w13); replace HB := mB HB hb_; replace HXi := mX HXi hb_; replace HXq := mX HXq hb_; replace HXn := mX HXn hb_; replace HRo := mR HRo hb_; replace HRb := mR HRb hb_; replace HXp := mX HXp hb_; replace HRmb := mR HRmb hb_; replace HXf := mX HXf hb_; replace HXm := mX HXm hb_; replace HRi := mI HRi hb_; clear hb_; generalize w13.drew = w14 at HB HXi HXq HXn HRo HRb HXp HRmb HXf HXm HRi hHeld |-
     refine pz 0 88 HT_ ?_; refine tv 1 89 (.agg #[.int .u8 0, .int .u32 0, .int .u16 0, .int .u32 0, .int .u16 0, .int .u8 0, .slice none 0 0]) HT_ HW_ hHeld ?_ ?_
     ·intro w' s0
      exact rw_load (p := .tmp 6) (ty := 76) (by rfl) (by rfl) s0 hu76 (by rfl) HI76.out
     refine nz 89 ?_; refine oz 2 (none) HT_ (fun K hK => ?_); refine skip_row (by rfl) (by rfl) rfl rfl rfl HXi.out HI73.out rfl (by simp [Value.oneCell']) ?_; intro w15 hs_ off_; replace HXq := oX off_ HXq HXi (by decide); replace HXn := oX off_ HXn HXi (by decide); replace HRo := oR off_ HRo HXi (by decide); replace HRb := oR off_ HRb HXi (by decide); replace HXp := oN off_ HXp (ne_sym NE_HXi_HXp); replace HRmb := oR off_ HRmb HXi (by decide); replace HXf := oX off_ HXf HXi (by decide); replace HXm := oX off_ HXm HXi (by decide); replace HRi := oI off_ HRi HXi (by decide); replace HB := oB off_ HB GHXi; clear off_; replace HXi := Aside0.mk hs_; clear hs_; refine hK.out _ _ HXn.out (fun hHeld => ?_); clear hK K; refine pz 3 3 HT_ ?_; refine oz 4 (none) HT_ (fun K hK => ?_); refine skip_row (by rfl) (by rfl) rfl rfl rfl HXq.out HI76.out rfl (by simp [Value.oneCell']) ?_
     intro w16 hs_ off_; replace HXi := oX off_ HXi HXq (by decide); replace HXn := oN off_ HXn (ne_sym NE_HXq_HXn); replace HRo := oR off_ HRo HXq (by decide); replace HRb := oR off_ HRb HXq (by decide); replace HXp := oX off_ HXp HXq (by decide); replace HRmb := oR off_ HRmb HXq (by decide); replace HXf := oN off_ HXf (ne_sym NE_HXq_HXf); replace HXm := oX off_ HXm HXq (by decide); replace HRi := oI off_ HRi HXq (by decide); replace HB := oB off_ HB GHXq; clear off_; replace HXq := Aside0.mk hs_; clear hs_; refine hK.out _ _ HXn.out (fun hHeld => ?_); clear hK K; refine pz 5 5 HT_ ?_; refine dz HT_ ?_; clear HT_ HW_ hHeld
     (try dsimp only)
     go_wp2
     (try simp only [Exit.inBlock, Exit.then])
     refine bodyPost_ret (results_ctct rfl _ _ gi gq 73 76 #[.int .u8 0, .int .u8 0, .int .u8 0, .int .u16 0, .int .u8 0, .int .u16 0, .int .u32 0, .int .u32 0, .slice none 0 0, .slice none 0 0] #[.int .u8 0, .int .u32 0, .int .u16 0, .int .u32 0, .int .u16 0, .int .u8 0, .slice none 0 0] (0, 0) (0, 0) _ _ rfl HXi.out hu73 rfl HI73.out rfl HXq.out hu76 rfl HI76.out) rfl ?_; exact ⟨_, _, _, _, rfl, Kd.R_nil _ _ _ _ _, Kd.R_nil _ _ _ _ _, rfl, Kd.R_nil _ _ _ _ _, HB.out⟩
    | true =>
     rw [if_pos rfl] at H
     cases ok with
     | false =>
      rw [if_neg (by decide)] at H
      obtain rfl := Option.some.inj H
      (try dsimp only)
      go_upto_region 18 with (fail)
      refine start_ (n := 6) (S := fun w' => w'.heap[gn]? = some (.cells #[.int .u8 0, .int .u32 0, .int .u16 0, .int .u32 0, .int .u16 0, .int .u8 0, .slice none 0 0] 76 (0, 0))) (ds := []) #[false, false, false, false, false, false] (by kernel_rfl) rfl rfl HXn.out (fun hHeld => ?_); refine with_tabW look.R18.tab look.R18.bits (fun HT_ HW_ => ?_); have hb_ := below_drew1 (Below.refl w13.heap.size w13); replace HB := mB HB hb_; replace HXi := mX HXi hb_; replace HXq := mX HXq hb_; replace HXn := mX HXn hb_; replace HRo := mR HRo hb_; replace HRb := mR HRb hb_; replace HXp := mX HXp hb_; replace HRmb := mR HRmb hb_; replace HXf := mX HXf hb_; replace HXm := mX HXm hb_; replace HRi := mI HRi hb_; clear hb_; generalize w13.drew = w14 at HB HXi HXq HXn HRo HRb HXp HRmb HXf HXm HRi hHeld |-
      refine pz 0 88 HT_ ?_; refine tv 1 89 (.agg #[.int .u8 0, .int .u32 0, .int .u16 0, .int .u32 0, .int .u16 0, .int .u8 0, .slice none 0 0]) HT_ HW_ hHeld ?_ ?_
      ·intro w' s0
       exact rw_load (p := .tmp 6) (ty := 76) (by rfl) (by rfl) s0 hu76 (by rfl) HI76.out
      refine nz 89 ?_; refine oz 2 (none) HT_ (fun K hK => ?_); refine skip_row (by rfl) (by rfl) rfl rfl rfl HXi.out HI73.out rfl (by simp [Value.oneCell']) ?_; intro w15 hs_ off_; replace HXq := oX off_ HXq HXi (by decide); replace HXn := oX off_ HXn HXi (by decide); replace HRo := oR off_ HRo HXi (by decide); replace HRb := oR off_ HRb HXi (by decide); replace HXp := oN off_ HXp (ne_sym NE_HXi_HXp); replace HRmb := oR off_ HRmb HXi (by decide); replace HXf := oX off_ HXf HXi (by decide); replace HXm := oX off_ HXm HXi (by decide); replace HRi := oI off_ HRi HXi (by decide); replace HB := oB off_ HB GHXi; clear off_; replace HXi := Aside0.mk hs_; clear hs_; refine hK.out _ _ HXn.out (fun hHeld => ?_); clear hK K; refine pz 3 3 HT_ ?_; refine oz 4 (none) HT_ (fun K hK => ?_); refine skip_row (by rfl) (by rfl) rfl rfl rfl HXq.out HI76.out rfl (by simp [Value.oneCell']) ?_
      intro w16 hs_ off_; replace HXi := oX off_ HXi HXq (by decide); replace HXn := oN off_ HXn (ne_sym NE_HXq_HXn); replace HRo := oR off_ HRo HXq (by decide); replace HRb := oR off_ HRb HXq (by decide); replace HXp := oX off_ HXp HXq (by decide); replace HRmb := oR off_ HRmb HXq (by decide); replace HXf := oN off_ HXf (ne_sym NE_HXq_HXf); replace HXm := oX off_ HXm HXq (by decide); replace HRi := oI off_ HRi HXq (by decide); replace HB := oB off_ HB GHXq; clear off_; replace HXq := Aside0.mk hs_; clear hs_; refine hK.out _ _ HXn.out (fun hHeld => ?_); clear hK K; refine pz 5 5 HT_ ?_; refine dz HT_ ?_; clear HT_ HW_ hHeld
      (try dsimp only)
      go_wp2
      (try simp only [Exit.inBlock, Exit.then])
      refine bodyPost_ret (results_ctct rfl _ _ gi gq 73 76 #[.int .u8 0, .int .u8 0, .int .u8 0, .int .u16 0, .int .u8 0, .int .u16 0, .int .u32 0, .int .u32 0, .slice none 0 0, .slice none 0 0] #[.int .u8 0, .int .u32 0, .int .u16 0, .int .u32 0, .int .u16 0, .int .u8 0, .slice none 0 0] (0, 0) (0, 0) _ _ rfl HXi.out hu73 rfl HI73.out rfl HXq.out hu76 rfl HI76.out) rfl ?_; exact ⟨_, _, _, _, rfl, Kd.R_nil _ _ _ _ _, Kd.R_nil _ _ _ _ _, rfl, Kd.R_nil _ _ _ _ _, HB.out⟩
     | true =>
      rw [if_pos rfl] at H
      obtain rfl := Option.some.inj H
      (try dsimp only)
      go_upto_region 25 with (((refine rw_set rfl rfl (i := 6) (v := .slice Ai il.length ci) (cs' := #[.int .u8 1, .int .u32 s, .int .u16 0, .int .u32 d, .int .u16 0, .int .u8 0, .slice Ai il.length ci]) HXf.out rfl ?hr_ ?_); (case hr_ => (have m_ := (blk_cell HXf.out 6).trans (rfl : _ = some (.slice none 0 0 : Value))); (have mf_ := blk_frozen HXf.out 6); first | (go_simp; done) | (go_simp; rfl)); intro w14 hs_ off_; replace HXi := oX off_ HXi HXf (by decide); replace HXq := oN off_ HXq NE_HXq_HXf; replace HXn := oN off_ HXn NE_HXn_HXf; replace HRo := oR off_ HRo HXf (by decide); replace HRb := oR off_ HRb HXf (by decide); replace HXp := oX off_ HXp HXf (by decide); replace HRmb := oR off_ HRmb HXf (by decide); replace HXm := oX off_ HXm HXf (by decide); replace HRi := oI off_ HRi HXf (by decide); replace HB := oB off_ HB GHXf; clear off_; replace HXf := Aside0.mk hs_; clear hs_))
      (try dsimp only)
      go_upto_region 25 with (fail)
      refine start_ (n := 7) (S := fun w' => w'.heap[gp]? = some (.cells #[.int .u8 a, .int .u8 t, .int .u8 1, .int .u16 i, .int .u8 fl, .int .u16 of_, .int .u32 s, .int .u32 d, .slice Ao o.length co, .slice Ab b.length cb] 73 (0, 0)) /\ w'.heap[gf]? = some (.cells #[.int .u8 1, .int .u32 s, .int .u16 0, .int .u32 d, .int .u16 0, .int .u8 0, .slice Ai il.length ci] 76 (0, 0))) (ds := []) #[false, false, false, false, false, false, false] (by kernel_rfl) rfl rfl ⟨HXp.out, HXf.out⟩ (fun hHeld => ?_); refine with_tabW look.R25.tab look.R25.bits (fun HT_ HW_ => ?_); have hb_ := below_drew1 (Below.refl w14.heap.size w14); replace HB := mB HB hb_; replace HXi := mX HXi hb_; replace HXq := mX HXq hb_; replace HXn := mX HXn hb_; replace HRo := mR HRo hb_; replace HRb := mR HRb hb_; replace HXp := mX HXp hb_; replace HRmb := mR HRmb hb_; replace HXf := mX HXf hb_; replace HXm := mX HXm hb_
      replace HRi := mI HRi hb_; clear hb_; generalize w14.drew = w15 at HB HXi HXq HXn HRo HRb HXp HRmb HXf HXm HRi hHeld |-
      refine pz 1 123 HT_ ?_; refine tv 0 122 (.agg #[.int .u8 a, .int .u8 t, .int .u8 1, .int .u16 i, .int .u8 fl, .int .u16 of_, .int .u32 s, .int .u32 d, .slice Ao o.length co, .slice Ab b.length cb]) HT_ HW_ hHeld ?_ ?_
      ·intro w' s0
       obtain ⟨s0, s1⟩ := s0; exact rw_load (p := .tmp 7) (ty := 73) (by rfl) (by rfl) s0 hu73 (by rfl) HI73.out
      refine nz 122 ?_; refine tv 2 124 (.agg #[.int .u8 1, .int .u32 s, .int .u16 0, .int .u32 d, .int .u16 0, .int .u8 0, .slice Ai il.length ci]) HT_ HW_ hHeld ?_ ?_
      ·intro w' s0
       obtain ⟨s0, s1⟩ := s0; exact rw_load (p := .tmp 10) (ty := 76) (by rfl) (by rfl) s1 hu76 (by rfl) HI76.out
      refine nz 124 ?_; refine oz 3 (none) HT_ (fun K hK => ?_); refine skip_row (by rfl) (by rfl) rfl rfl rfl HXi.out HI73.out rfl (by simp [Value.oneCell']) ?_; intro w16 hs_ off_; replace HXq := oX off_ HXq HXi (by decide); replace HXn := oX off_ HXn HXi (by decide); replace HRo := oR off_ HRo HXi (by decide); replace HRb := oR off_ HRb HXi (by decide); replace HXp := oN off_ HXp (ne_sym NE_HXi_HXp); replace HRmb := oR off_ HRmb HXi (by decide); replace HXf := oX off_ HXf HXi (by decide); replace HXm := oX off_ HXm HXi (by decide); replace HRi := oI off_ HRi HXi (by decide); replace HB := oB off_ HB GHXi; clear off_; replace HXi := Aside0.mk hs_; clear hs_; refine hK.out _ _ ⟨HXp.out, HXf.out⟩ (fun hHeld => ?_); clear hK K; refine pz 4 3 HT_ ?_; refine oz 5 (none) HT_ (fun K hK => ?_); refine skip_row (by rfl) (by rfl) rfl rfl rfl HXq.out HI76.out rfl (by simp [Value.oneCell']) ?_
      intro w17 hs_ off_; replace HXi := oX off_ HXi HXq (by decide); replace HXn := oN off_ HXn (ne_sym NE_HXq_HXn); replace HRo := oR off_ HRo HXq (by decide); replace HRb := oR off_ HRb HXq (by decide); replace HXp := oX off_ HXp HXq (by decide); replace HRmb := oR off_ HRmb HXq (by decide); replace HXf := oN off_ HXf (ne_sym NE_HXq_HXf); replace HXm := oX off_ HXm HXq (by decide); replace HRi := oI off_ HRi HXq (by decide); replace HB := oB off_ HB GHXq; clear off_; replace HXq := Aside0.mk hs_; clear hs_; refine hK.out _ _ ⟨HXp.out, HXf.out⟩ (fun hHeld => ?_); clear hK K; refine pz 6 5 HT_ ?_; refine dz HT_ ?_; clear HT_ HW_ hHeld
      (try dsimp only)
      go_wp2
      (try simp only [Exit.inBlock, Exit.then])
      refine bodyPost_ret (results_ctct rfl _ _ gi gq 73 76 #[.int .u8 a, .int .u8 t, .int .u8 1, .int .u16 i, .int .u8 fl, .int .u16 of_, .int .u32 s, .int .u32 d, .slice Ao o.length co, .slice Ab b.length cb] #[.int .u8 1, .int .u32 s, .int .u16 0, .int .u32 d, .int .u16 0, .int .u8 0, .slice Ai il.length ci] (0, 0) (0, 0) _ _ rfl HXi.out hu73 rfl HI73.out rfl HXq.out hu76 rfl HI76.out) rfl ?_; exact ⟨_, _, _, _, rfl, HRo.out, HRb.out, ⟨_, rfl, HRmb.out⟩, HRi.out, HB.out⟩
   | true =>
    rw [if_pos rfl] at H
    obtain rfl := Option.some.inj H
    (try dsimp only)
    go_upto_region 16 with (fail)
    refine start_ (n := 14) (S := fun w' => w'.cell? ⟨gm, 3, none⟩ = some (.int .u32 mr)) (ds := []) #[false, false, false, false, false, false, false, false, false, false, false, false, false, false] (by kernel_rfl) rfl rfl ((blk_cell HXm.out 3).trans rfl) (fun hHeld => ?_); refine with_tabW look.R16.tab look.R16.bits (fun HT_ HW_ => ?_); have hb_ := below_drew1 (Below.refl w12.heap.size w12); replace HB := mB HB hb_; replace HXi := mX HXi hb_; replace HXq := mX HXq hb_; replace HXn := mX HXn hb_; replace HRo := mR HRo hb_; replace HRb := mR HRb hb_; replace HXp := mX HXp hb_; replace HRmb := mR HRmb hb_; replace HXf := mX HXf hb_; replace HXm := mX HXm hb_; replace HRi := mI HRi hb_; clear hb_; generalize w12.drew = w13 at HB HXi HXq HXn HRo HRb HXp HRmb HXf HXm HRi hHeld |-
    refine pz 0 68 HT_ ?_; refine pz 4 72 HT_ ?_; refine tz 1 69 HT_ HW_ hHeld ?_; refine pz 2 70 HT_ ?_; refine pz 3 71 HT_ ?_; refine pz 8 76 HT_ ?_; refine pz 9 77 HT_ ?_; refine tz 5 73 HT_ HW_ hHeld ?_; refine pz 6 74 HT_ ?_; refine pz 7 75 HT_ ?_; refine oz 10 (none) HT_ (fun K hK => ?_); refine skip_cell (i := 2) (v := .int .u16 (mr / 65536 % 65536)) (cs' := #[.int .u8 1, .int .u32 s, .int .u16 (mr / 65536 % 65536), .int .u32 d, .int .u16 0, .int .u8 0, .slice none 0 0]) (by rfl) (by rfl) HXf.out rfl (by (have m_ := (blk_cell HXf.out 2).trans (rfl : _ = some (.int .u16 0 : Value))); (have mf_ := blk_frozen HXf.out 2); first | (go_simp; done) | (go_simp; rfl)) ?_; intro w14 hs_ off_; replace HXi := oX off_ HXi HXf (by decide); replace HXq := oN off_ HXq NE_HXq_HXf; replace HXn := oN off_ HXn NE_HXn_HXf; replace HRo := oR off_ HRo HXf (by decide)
    replace HRb := oR off_ HRb HXf (by decide); replace HXp := oX off_ HXp HXf (by decide); replace HRmb := oR off_ HRmb HXf (by decide); replace HXm := oX off_ HXm HXf (by decide); replace HRi := oI off_ HRi HXf (by decide); replace HB := oB off_ HB GHXf; clear off_; replace HXf := Aside0.mk hs_; clear hs_; refine hK.out _ _ ((blk_cell HXm.out 3).trans rfl) (fun hHeld => ?_); clear hK K; refine pz 11 78 HT_ ?_; refine pz 12 79 HT_ ?_; refine oz 13 (none) HT_ (fun K hK => ?_); refine skip_cell (i := 4) (v := .int .u16 (mr / 65536 % 65536)) (cs' := #[.int .u8 1, .int .u32 s, .int .u16 (mr / 65536 % 65536), .int .u32 d, .int .u16 (mr / 65536 % 65536), .int .u8 0, .slice none 0 0]) (by rfl) (by rfl) HXf.out rfl (by (have m_ := (blk_cell HXf.out 4).trans (rfl : _ = some (.int .u16 0 : Value))); (have mf_ := blk_frozen HXf.out 4); first | (go_simp; done) | (go_simp; rfl)) ?_
    intro w15 hs_ off_; replace HXi := oX off_ HXi HXf (by decide); replace HXq := oN off_ HXq NE_HXq_HXf; replace HXn := oN off_ HXn NE_HXn_HXf; replace HRo := oR off_ HRo HXf (by decide); replace HRb := oR off_ HRb HXf (by decide); replace HXp := oX off_ HXp HXf (by decide); replace HRmb := oR off_ HRmb HXf (by decide); replace HXm := oX off_ HXm HXf (by decide); replace HRi := oI off_ HRi HXf (by decide); replace HB := oB off_ HB GHXf; clear off_; replace HXf := Aside0.mk hs_; clear hs_; refine hK.out _ _ ((blk_cell HXm.out 3).trans rfl) (fun hHeld => ?_); clear hK K; refine dz HT_ ?_; clear HT_ HW_ hHeld
    (try dsimp only)
    go_upto_region 25 with (fail)
    refine start_ (n := 7) (S := fun w' => w'.heap[gp]? = some (.cells #[.int .u8 a, .int .u8 t, .int .u8 1, .int .u16 i, .int .u8 fl, .int .u16 of_, .int .u32 s, .int .u32 d, .slice Ao o.length co, .slice Ab b.length cb] 73 (0, 0)) /\ w'.heap[gf]? = some (.cells #[.int .u8 1, .int .u32 s, .int .u16 (mr / 65536 % 65536), .int .u32 d, .int .u16 (mr / 65536 % 65536), .int .u8 0, .slice none 0 0] 76 (0, 0))) (ds := []) #[false, false, false, false, false, false, false] (by kernel_rfl) rfl rfl ⟨HXp.out, HXf.out⟩ (fun hHeld => ?_); refine with_tabW look.R25.tab look.R25.bits (fun HT_ HW_ => ?_); have hb_ := below_drew1 (Below.refl w15.heap.size w15); replace HB := mB HB hb_; replace HXi := mX HXi hb_; replace HXq := mX HXq hb_; replace HXn := mX HXn hb_; replace HRo := mR HRo hb_; replace HRb := mR HRb hb_; replace HXp := mX HXp hb_; replace HRmb := mR HRmb hb_; replace HXf := mX HXf hb_
    replace HXm := mX HXm hb_; replace HRi := mI HRi hb_; clear hb_; generalize w15.drew = w16 at HB HXi HXq HXn HRo HRb HXp HRmb HXf HXm HRi hHeld |-
    refine pz 1 123 HT_ ?_; refine tv 0 122 (.agg #[.int .u8 a, .int .u8 t, .int .u8 1, .int .u16 i, .int .u8 fl, .int .u16 of_, .int .u32 s, .int .u32 d, .slice Ao o.length co, .slice Ab b.length cb]) HT_ HW_ hHeld ?_ ?_
    ·intro w' s0
     obtain ⟨s0, s1⟩ := s0; exact rw_load (p := .tmp 7) (ty := 73) (by rfl) (by rfl) s0 hu73 (by rfl) HI73.out
    refine nz 122 ?_; refine tv 2 124 (.agg #[.int .u8 1, .int .u32 s, .int .u16 (mr / 65536 % 65536), .int .u32 d, .int .u16 (mr / 65536 % 65536), .int .u8 0, .slice none 0 0]) HT_ HW_ hHeld ?_ ?_
    ·intro w' s0
     obtain ⟨s0, s1⟩ := s0; exact rw_load (p := .tmp 10) (ty := 76) (by rfl) (by rfl) s1 hu76 (by rfl) HI76.out
    refine nz 124 ?_; refine oz 3 (none) HT_ (fun K hK => ?_); refine skip_row (by rfl) (by rfl) rfl rfl rfl HXi.out HI73.out rfl (by simp [Value.oneCell']) ?_; intro w17 hs_ off_; replace HXq := oX off_ HXq HXi (by decide); replace HXn := oX off_ HXn HXi (by decide); replace HRo := oR off_ HRo HXi (by decide); replace HRb := oR off_ HRb HXi (by decide); replace HXp := oN off_ HXp (ne_sym NE_HXi_HXp); replace HRmb := oR off_ HRmb HXi (by decide); replace HXf := oX off_ HXf HXi (by decide); replace HXm := oX off_ HXm HXi (by decide); replace HRi := oI off_ HRi HXi (by decide); replace HB := oB off_ HB GHXi; clear off_; replace HXi := Aside0.mk hs_; clear hs_; refine hK.out _ _ ⟨HXp.out, HXf.out⟩ (fun hHeld => ?_); clear hK K; refine pz 4 3 HT_ ?_; refine oz 5 (none) HT_ (fun K hK => ?_); refine skip_row (by rfl) (by rfl) rfl rfl rfl HXq.out HI76.out rfl (by simp [Value.oneCell']) ?_
    intro w18 hs_ off_; replace HXi := oX off_ HXi HXq (by decide); replace HXn := oN off_ HXn (ne_sym NE_HXq_HXn); replace HRo := oR off_ HRo HXq (by decide); replace HRb := oR off_ HRb HXq (by decide); replace HXp := oX off_ HXp HXq (by decide); replace HRmb := oR off_ HRmb HXq (by decide); replace HXf := oN off_ HXf (ne_sym NE_HXq_HXf); replace HXm := oX off_ HXm HXq (by decide); replace HRi := oI off_ HRi HXq (by decide); replace HB := oB off_ HB GHXq; clear off_; replace HXq := Aside0.mk hs_; clear hs_; refine hK.out _ _ ⟨HXp.out, HXf.out⟩ (fun hHeld => ?_); clear hK K; refine pz 6 5 HT_ ?_; refine dz HT_ ?_; clear HT_ HW_ hHeld
    (try dsimp only)
    go_wp2
    (try simp only [Exit.inBlock, Exit.then])
    refine bodyPost_ret (results_ctct rfl _ _ gi gq 73 76 #[.int .u8 a, .int .u8 t, .int .u8 1, .int .u16 i, .int .u8 fl, .int .u16 of_, .int .u32 s, .int .u32 d, .slice Ao o.length co, .slice Ab b.length cb] #[.int .u8 1, .int .u32 s, .int .u16 (mr / 65536 % 65536), .int .u32 d, .int .u16 (mr / 65536 % 65536), .int .u8 0, .slice none 0 0] (0, 0) (0, 0) _ _ rfl HXi.out hu73 rfl HI73.out rfl HXq.out hu76 rfl HI76.out) rfl ?_; exact ⟨_, _, _, _, rfl, HRo.out, HRb.out, ⟨_, rfl, HRmb.out⟩, Kd.R_nil _ _ _ _ _, HB.out⟩
 ·have ce1 : (e2 == 0) = false := beq_eq_false_iff_ne.2 ce
  have ce2 : (e2 != 0) = true := bne_iff_ne.2 ce; rw [if_neg ce] at H
  clear ce; obtain rfl := Option.some.inj H
  (try dsimp only)
  go_upto_region 7 with (fail)
  refine start_ (n := 7) (S := fun w' => w'.heap[gn]? = some (.cells #[.int .u8 0, .int .u32 0, .int .u16 0, .int .u32 0, .int .u16 0, .int .u8 0, .slice none 0 0] 76 (0, 0))) (ds := []) #[false, false, false, false, false, false, false] (by kernel_rfl) rfl rfl HXn.out (fun hHeld => ?_); refine with_tabW look.R7.tab look.R7.bits (fun HT_ HW_ => ?_); have hb_ := below_drew1 (Below.refl w6.heap.size w6); replace HB := mB HB hb_; replace HXi := mX HXi hb_; replace HXq := mX HXq hb_; replace HXn := mX HXn hb_; replace HRo := mR HRo hb_; replace HRb := mR HRb hb_; replace HXp := mX HXp hb_; replace HRmb := mR HRmb hb_; clear hb_; generalize w6.drew = w7 at HB HXi HXq HXn HRo HRb HXp HRmb hHeld |-
  refine pz 0 34 HT_ ?_; refine pz 2 36 HT_ ?_; refine tv 1 35 (.agg #[.int .u8 0, .int .u32 0, .int .u16 0, .int .u32 0, .int .u16 0, .int .u8 0, .slice none 0 0]) HT_ HW_ hHeld ?_ ?_
  ·intro w' s0
   exact rw_load (p := .tmp 6) (ty := 76) (by rfl) (by rfl) s0 hu76 (by rfl) HI76.out
  refine nz 35 ?_; refine oz 3 (none) HT_ (fun K hK => ?_); refine skip_row (by rfl) (by rfl) rfl rfl rfl HXi.out HI73.out rfl (by simp [Value.oneCell']) ?_; intro w8 hs_ off_; replace HXq := oX off_ HXq HXi (by decide); replace HXn := oX off_ HXn HXi (by decide); replace HRo := oR off_ HRo HXi (by decide); replace HRb := oR off_ HRb HXi (by decide); replace HXp := oN off_ HXp (ne_sym NE_HXi_HXp); replace HRmb := oR off_ HRmb HXi (by decide); replace HB := oB off_ HB GHXi; clear off_; replace HXi := Aside0.mk hs_; clear hs_; refine hK.out _ _ HXn.out (fun hHeld => ?_); clear hK K; refine pz 4 3 HT_ ?_; refine oz 5 (none) HT_ (fun K hK => ?_); refine skip_row (by rfl) (by rfl) rfl rfl rfl HXq.out HI76.out rfl (by simp [Value.oneCell']) ?_; intro w9 hs_ off_; replace HXi := oX off_ HXi HXq (by decide); replace HXn := oN off_ HXn (ne_sym NE_HXq_HXn)
  replace HRo := oR off_ HRo HXq (by decide); replace HRb := oR off_ HRb HXq (by decide); replace HXp := oX off_ HXp HXq (by decide); replace HRmb := oR off_ HRmb HXq (by decide); replace HB := oB off_ HB GHXq; clear off_; replace HXq := Aside0.mk hs_; clear hs_; refine hK.out _ _ HXn.out (fun hHeld => ?_); clear hK K; refine pz 6 5 HT_ ?_; refine dz HT_ ?_; clear HT_ HW_ hHeld
  (try dsimp only)
  go_wp2
  (try simp only [Exit.inBlock, Exit.then])
  refine bodyPost_ret (results_ctct rfl _ _ gi gq 73 76 #[.int .u8 0, .int .u8 0, .int .u8 0, .int .u16 0, .int .u8 0, .int .u16 0, .int .u32 0, .int .u32 0, .slice none 0 0, .slice none 0 0] #[.int .u8 0, .int .u32 0, .int .u16 0, .int .u32 0, .int .u16 0, .int .u8 0, .slice none 0 0] (0, 0) (0, 0) _ _ rfl HXi.out hu73 rfl HI73.out rfl HXq.out hu76 rfl HI76.out) rfl ?_; exact ⟨_, _, _, _, rfl, Kd.R_nil _ _ _ _ _, Kd.R_nil _ _ _ _ _, rfl, Kd.R_nil _ _ _ _ _, HB.out⟩
attribute [local go_sem] inR179
attribute [local go_sem] inP179
attribute [local go_sem] inR181
attribute [local go_sem] inP181
attribute [local go_sem] inR183
attribute [local go_sem] inP183
attribute [local go_sem] inT179
attribute [local go_sem] inT181
attribute [local go_sem] inT183
attribute [local go_sem] inF179
attribute [local go_sem] inF181
attribute [local go_sem] inF183
theorem look.lk_bad (k : Nat) (A : Option Addr) (c : Nat) (l : List Int) (a t pr i fl of_ s d : Int) (o b : List Int) (e_ : Int) (w : World) (hC : Kd.C (Kd.int .u8) w A l.length l) (hL : l.length <= c) (hP : ip_Parse.f k l = some (a, t, pr, i, fl, of_, s, d, o, b, e_)) (he : ¬ e_ = 0) :
  Calls Try.prog 69 #[.slice A l.length c] w fun e w' => (LK.err e_).Post w.heap.size w e w' := by
 have hu73 := Try.underlying73; have hu76 := Try.underlying76; have HB := Aside0.mk (Below.refl w.heap.size w); have HC := Aside0.mk hC; have HL := Aside0.mk hL; have HP := Aside0.mk hP; have HI73 : Aside0 ((Try.prog.info? 73).map (·.size) = some 10) := ⟨by kernel_rfl⟩
 have HI76 : Aside0 ((Try.prog.info? 76).map (·.size) = some 7) := ⟨by kernel_rfl⟩
 clear hC hL hP
 go_enter Try.func69, Try.ntmps69
 go_upto_region 2 with (first | ((with_reducible refine gate_dst (N := 2) rfl ?_); refine box_event ?hg_ (N := 2) ?hd_ (cs := #[.int .u8 0, .int .u8 0, .int .u8 0, .int .u16 0, .int .u8 0, .int .u16 0, .int .u32 0, .int .u32 0, .slice none 0 0, .slice none 0 0]) (t := 73) ?hr_ ?_; (case hd_ => rfl); (case hg_ => rfl); (case hr_ => first | (go_simp; done) | (go_simp; rfl)); intro gi hgg_ w1 hbox_ hbb_; have GHXi := Aside0.mk (show w.heap.size <= gi by rw [hgg_]; exact below_size HB.out); have HXi := Aside0.mk hbox_; have hb_ := hbb_; replace HB := mB HB hb_; clear hb_; clear hgg_ hbox_ hbb_) | ((with_reducible refine gate_dst (N := 4) rfl ?_); refine box_event ?hg_ (N := 4) ?hd_ (cs := #[.int .u8 0, .int .u32 0, .int .u16 0, .int .u32 0, .int .u16 0, .int .u8 0, .slice none 0 0]) (t := 76) ?hr_ ?_; (case hd_ => rfl); (case hg_ => rfl); (case hr_ => first | (go_simp; done) | (go_simp; rfl)); intro gq hgg_ w2 hbox_ hbb_; have GHXq := Aside0.mk (show w.heap.size <= gq by rw [hgg_]; exact below_size HB.out); have HXq := Aside0.mk hbox_; have hb_ := hbb_; replace HB := mB HB hb_; replace HXi := mX HXi hb_; clear hb_; clear hgg_ hbox_ hbb_) | ((refine rw_newrow rfl rfl rfl rfl rfl HI76.out rfl (by simp [Value.oneCell']) ?_); intro x_new hx_ hbn_))
 revert x_new hx_ hbn_; intro w3 hx_ hbn_; have HXn : Aside0 (w3.heap[w2.heap.size]? = some (.cells #[.int .u8 0, .int .u32 0, .int .u16 0, .int .u32 0, .int .u16 0, .int .u8 0, .slice none 0 0] 76 (0, 0))) := ⟨hx_⟩
 have GHXn := bsz HB; have NE_HXq_HXn := blk_less HXq; have hb_ := hbn_; replace HB := mB HB hb_; replace HXi := mX HXi hb_; replace HXq := mX HXq hb_; clear hb_; clear hx_ hbn_; generalize w2.heap.size = gn at HXn GHXn NE_HXq_HXn |-
 go_wp2_with fail
 refine (ip_Parse.calls k A c l a t pr i fl of_ s d o b e_ _ (Kd.C_below HC.out HB.out) HL.out HP.out).mono ?_; rintro ev w4 ⟨vo, vb, rfl, ho, ho2, hb⟩; have HRo := rLow ho HB; obtain ⟨Ao, co, rfl, _, _⟩ := Kd.R_reads ho; clear ho; have HRb := rLow ho2 HB; obtain ⟨Ab, cb, rfl, _, _⟩ := Kd.R_reads ho2; clear ho2; have hb_ := hb; replace HB := mB HB hb_; replace HXi := mX HXi hb_; replace HXq := mX HXq hb_; replace HXn := mX HXn hb_; clear hb_; clear hb HP HC HL
 (try dsimp only)
 go_upto_region 3 with (((refine rw_newrow rfl rfl rfl rfl rfl HI73.out rfl (by simp [Value.oneCell']) ?_); intro x_new hx_ hbn_))
 revert x_new hx_ hbn_; intro w5 hx_ hbn_; have HXp : Aside0 (w5.heap[w4.heap.size]? = some (.cells #[.int .u8 a, .int .u8 t, .int .u8 pr, .int .u16 i, .int .u8 fl, .int .u16 of_, .int .u32 s, .int .u32 d, .slice Ao o.length co, .slice Ab b.length cb] 73 (0, 0))) := ⟨hx_⟩
 have GHXp := bsz HB; have NE_HXi_HXp := blk_less HXi; have hb_ := hbn_; replace HB := mB HB hb_; replace HXi := mX HXi hb_; replace HXq := mX HXq hb_; replace HXn := mX HXn hb_; replace HRo := mR HRo hb_; replace HRb := mR HRb hb_; clear hb_; clear hx_ hbn_; generalize w4.heap.size = gp at HXp GHXp NE_HXi_HXp |-
 have he1 : (e_ == 0) = false := beq_eq_false_iff_ne.2 he; have he2 : (e_ != 0) = true := bne_iff_ne.2 he; clear he; have H : some (LK.err e_) = some (LK.err e_) := rfl
 (try dsimp only)
 go_upto_region 4 with (fail)
 refine start_ (n := 7) (S := fun w' => w'.heap[gn]? = some (.cells #[.int .u8 0, .int .u32 0, .int .u16 0, .int .u32 0, .int .u16 0, .int .u8 0, .slice none 0 0] 76 (0, 0))) (ds := []) #[false, false, false, false, false, false, false] (by kernel_rfl) rfl rfl HXn.out (fun hHeld => ?_); refine with_tabW look.R4.tab look.R4.bits (fun HT_ HW_ => ?_); have hb_ := below_drew1 (Below.refl w5.heap.size w5); replace HB := mB HB hb_; replace HXi := mX HXi hb_; replace HXq := mX HXq hb_; replace HXn := mX HXn hb_; replace HRo := mR HRo hb_; replace HRb := mR HRb hb_; replace HXp := mX HXp hb_; clear hb_; generalize w5.drew = w6 at HB HXi HXq HXn HRo HRb HXp hHeld |-
 refine pz 0 24 HT_ ?_; refine pz 2 26 HT_ ?_; refine tv 1 25 (.agg #[.int .u8 0, .int .u32 0, .int .u16 0, .int .u32 0, .int .u16 0, .int .u8 0, .slice none 0 0]) HT_ HW_ hHeld ?_ ?_
 ·intro w' s0
  exact rw_load (p := .tmp 6) (ty := 76) (by rfl) (by rfl) s0 hu76 (by rfl) HI76.out
 refine nz 25 ?_; refine oz 3 (none) HT_ (fun K hK => ?_); refine skip_row (by rfl) (by rfl) rfl rfl rfl HXi.out HI73.out rfl (by simp [Value.oneCell']) ?_; intro w7 hs_ off_; replace HXq := oX off_ HXq HXi (by decide); replace HXn := oX off_ HXn HXi (by decide); replace HRo := oR off_ HRo HXi (by decide); replace HRb := oR off_ HRb HXi (by decide); replace HXp := oN off_ HXp (ne_sym NE_HXi_HXp); replace HB := oB off_ HB GHXi; clear off_; replace HXi := Aside0.mk hs_; clear hs_; refine hK.out _ _ HXn.out (fun hHeld => ?_); clear hK K; refine pz 4 3 HT_ ?_; refine oz 5 (none) HT_ (fun K hK => ?_); refine skip_row (by rfl) (by rfl) rfl rfl rfl HXq.out HI76.out rfl (by simp [Value.oneCell']) ?_; intro w8 hs_ off_; replace HXi := oX off_ HXi HXq (by decide); replace HXn := oN off_ HXn (ne_sym NE_HXq_HXn); replace HRo := oR off_ HRo HXq (by decide); replace HRb := oR off_ HRb HXq (by decide)
 replace HXp := oX off_ HXp HXq (by decide); replace HB := oB off_ HB GHXq; clear off_; replace HXq := Aside0.mk hs_; clear hs_; refine hK.out _ _ HXn.out (fun hHeld => ?_); clear hK K; refine pz 6 5 HT_ ?_; refine dz HT_ ?_; clear HT_ HW_ hHeld
 (try dsimp only)
 go_wp2
 (try simp only [Exit.inBlock, Exit.then])
 refine bodyPost_ret (results_ctct rfl _ _ gi gq 73 76 #[.int .u8 0, .int .u8 0, .int .u8 0, .int .u16 0, .int .u8 0, .int .u16 0, .int .u32 0, .int .u32 0, .slice none 0 0, .slice none 0 0] #[.int .u8 0, .int .u32 0, .int .u16 0, .int .u32 0, .int .u16 0, .int .u8 0, .slice none 0 0] (0, 0) (0, 0) _ _ rfl HXi.out hu73 rfl HI73.out rfl HXq.out hu76 rfl HI76.out) rfl ?_; exact ⟨_, _, _, _, rfl, Kd.R_nil _ _ _ _ _, Kd.R_nil _ _ _ _ _, rfl, Kd.R_nil _ _ _ _ _, HB.out⟩
theorem look.lk_other (k : Nat) (A : Option Addr) (c : Nat) (l : List Int) (a t pr i fl of_ s d : Int) (o b : List Int) (w : World) (hC : Kd.C (Kd.int .u8) w A l.length l) (hL : l.length <= c) (hP : ip_Parse.f k l = some (a, t, pr, i, fl, of_, s, d, o, b, 0)) (n17 : ¬ pr = 17) (n6 : ¬ pr = 6) (n1 : ¬ pr = 1) :
  Calls Try.prog 69 #[.slice A l.length c] w fun e w' => (LK.err 21).Post w.heap.size w e w' := by
 have hu73 := Try.underlying73; have hu76 := Try.underlying76; have HB := Aside0.mk (Below.refl w.heap.size w); have HC := Aside0.mk hC; have HL := Aside0.mk hL; have HP := Aside0.mk hP; have HI73 : Aside0 ((Try.prog.info? 73).map (·.size) = some 10) := ⟨by kernel_rfl⟩
 have HI76 : Aside0 ((Try.prog.info? 76).map (·.size) = some 7) := ⟨by kernel_rfl⟩
 clear hC hL hP
 go_enter Try.func69, Try.ntmps69
 go_upto_region 2 with (first | ((with_reducible refine gate_dst (N := 2) rfl ?_); refine box_event ?hg_ (N := 2) ?hd_ (cs := #[.int .u8 0, .int .u8 0, .int .u8 0, .int .u16 0, .int .u8 0, .int .u16 0, .int .u32 0, .int .u32 0, .slice none 0 0, .slice none 0 0]) (t := 73) ?hr_ ?_; (case hd_ => rfl); (case hg_ => rfl); (case hr_ => first | (go_simp; done) | (go_simp; rfl)); intro gi hgg_ w1 hbox_ hbb_; have GHXi := Aside0.mk (show w.heap.size <= gi by rw [hgg_]; exact below_size HB.out); have HXi := Aside0.mk hbox_; have hb_ := hbb_; replace HB := mB HB hb_; clear hb_; clear hgg_ hbox_ hbb_) | ((with_reducible refine gate_dst (N := 4) rfl ?_); refine box_event ?hg_ (N := 4) ?hd_ (cs := #[.int .u8 0, .int .u32 0, .int .u16 0, .int .u32 0, .int .u16 0, .int .u8 0, .slice none 0 0]) (t := 76) ?hr_ ?_; (case hd_ => rfl); (case hg_ => rfl); (case hr_ => first | (go_simp; done) | (go_simp; rfl)); intro gq hgg_ w2 hbox_ hbb_; have GHXq := Aside0.mk (show w.heap.size <= gq by rw [hgg_]; exact below_size HB.out); have HXq := Aside0.mk hbox_; have hb_ := hbb_; replace HB := mB HB hb_; replace HXi := mX HXi hb_; clear hb_; clear hgg_ hbox_ hbb_) | ((refine rw_newrow rfl rfl rfl rfl rfl HI76.out rfl (by simp [Value.oneCell']) ?_); intro x_new hx_ hbn_))
 revert x_new hx_ hbn_; intro w3 hx_ hbn_; have HXn : Aside0 (w3.heap[w2.heap.size]? = some (.cells #[.int .u8 0, .int .u32 0, .int .u16 0, .int .u32 0, .int .u16 0, .int .u8 0, .slice none 0 0] 76 (0, 0))) := ⟨hx_⟩
 have GHXn := bsz HB; have NE_HXq_HXn := blk_less HXq; have hb_ := hbn_; replace HB := mB HB hb_; replace HXi := mX HXi hb_; replace HXq := mX HXq hb_; clear hb_; clear hx_ hbn_; generalize w2.heap.size = gn at HXn GHXn NE_HXq_HXn |-
 go_wp2_with fail
 refine (ip_Parse.calls k A c l a t pr i fl of_ s d o b 0 _ (Kd.C_below HC.out HB.out) HL.out HP.out).mono ?_; rintro ev w4 ⟨vo, vb, rfl, ho, ho2, hb⟩; have HRo := rLow ho HB; obtain ⟨Ao, co, rfl, _, _⟩ := Kd.R_reads ho; clear ho; have HRb := rLow ho2 HB; obtain ⟨Ab, cb, rfl, _, _⟩ := Kd.R_reads ho2; clear ho2; have hb_ := hb; replace HB := mB HB hb_; replace HXi := mX HXi hb_; replace HXq := mX HXq hb_; replace HXn := mX HXn hb_; clear hb_; clear hb HP HC HL
 (try dsimp only)
 go_upto_region 3 with (((refine rw_newrow rfl rfl rfl rfl rfl HI73.out rfl (by simp [Value.oneCell']) ?_); intro x_new hx_ hbn_))
 revert x_new hx_ hbn_; intro w5 hx_ hbn_; have HXp : Aside0 (w5.heap[w4.heap.size]? = some (.cells #[.int .u8 a, .int .u8 t, .int .u8 pr, .int .u16 i, .int .u8 fl, .int .u16 of_, .int .u32 s, .int .u32 d, .slice Ao o.length co, .slice Ab b.length cb] 73 (0, 0))) := ⟨hx_⟩
 have GHXp := bsz HB; have NE_HXi_HXp := blk_less HXi; have hb_ := hbn_; replace HB := mB HB hb_; replace HXi := mX HXi hb_; replace HXq := mX HXq hb_; replace HXn := mX HXn hb_; replace HRo := mR HRo hb_; replace HRb := mR HRb hb_; clear hb_; clear hx_ hbn_; generalize w4.heap.size = gp at HXp GHXp NE_HXi_HXp |-
 have he1 : ((0 : Int) == 0) = true := rfl; have he2 : ((0 : Int) != 0) = false := rfl
 (try dsimp only)
 go_wp2_with (refine Kd.event_run rfl (rw_load rfl rfl HXp.out Try.underlying73 rfl HI73.out) ?_)
 clear he1 he2; refine (rewrite_of.of_other a t i fl of_ s d Ao o.length co Ab cb b pr _ n17 n6 n1).mono ?_; rintro ev w6 ⟨rfl, hb⟩; have hb_ := hb; replace HB := mB HB hb_; replace HXi := mX HXi hb_; replace HXq := mX HXq hb_; replace HXn := mX HXn hb_; replace HRo := mR HRo hb_; replace HRb := mR HRb hb_; replace HXp := mX HXp hb_; clear hb_; clear hb; have H : some (LK.err 21) = some (LK.err 21) := rfl
 (try dsimp only)
 go_upto_region 7 with (fail)
 refine start_ (n := 7) (S := fun w' => w'.heap[gn]? = some (.cells #[.int .u8 0, .int .u32 0, .int .u16 0, .int .u32 0, .int .u16 0, .int .u8 0, .slice none 0 0] 76 (0, 0))) (ds := []) #[false, false, false, false, false, false, false] (by kernel_rfl) rfl rfl HXn.out (fun hHeld => ?_); refine with_tabW look.R7.tab look.R7.bits (fun HT_ HW_ => ?_); have hb_ := below_drew1 (Below.refl w6.heap.size w6); replace HB := mB HB hb_; replace HXi := mX HXi hb_; replace HXq := mX HXq hb_; replace HXn := mX HXn hb_; replace HRo := mR HRo hb_; replace HRb := mR HRb hb_; replace HXp := mX HXp hb_; clear hb_; generalize w6.drew = w7 at HB HXi HXq HXn HRo HRb HXp hHeld |-
 refine pz 0 34 HT_ ?_; refine pz 2 36 HT_ ?_; refine tv 1 35 (.agg #[.int .u8 0, .int .u32 0, .int .u16 0, .int .u32 0, .int .u16 0, .int .u8 0, .slice none 0 0]) HT_ HW_ hHeld ?_ ?_
 ·intro w' s0
  exact rw_load (p := .tmp 6) (ty := 76) (by rfl) (by rfl) s0 hu76 (by rfl) HI76.out
 refine nz 35 ?_; refine oz 3 (none) HT_ (fun K hK => ?_); refine skip_row (by rfl) (by rfl) rfl rfl rfl HXi.out HI73.out rfl (by simp [Value.oneCell']) ?_; intro w8 hs_ off_; replace HXq := oX off_ HXq HXi (by decide); replace HXn := oX off_ HXn HXi (by decide); replace HRo := oR off_ HRo HXi (by decide); replace HRb := oR off_ HRb HXi (by decide); replace HXp := oN off_ HXp (ne_sym NE_HXi_HXp); replace HB := oB off_ HB GHXi; clear off_; replace HXi := Aside0.mk hs_; clear hs_; refine hK.out _ _ HXn.out (fun hHeld => ?_); clear hK K; refine pz 4 3 HT_ ?_; refine oz 5 (none) HT_ (fun K hK => ?_); refine skip_row (by rfl) (by rfl) rfl rfl rfl HXq.out HI76.out rfl (by simp [Value.oneCell']) ?_; intro w9 hs_ off_; replace HXi := oX off_ HXi HXq (by decide); replace HXn := oN off_ HXn (ne_sym NE_HXq_HXn); replace HRo := oR off_ HRo HXq (by decide); replace HRb := oR off_ HRb HXq (by decide)
 replace HXp := oX off_ HXp HXq (by decide); replace HB := oB off_ HB GHXq; clear off_; replace HXq := Aside0.mk hs_; clear hs_; refine hK.out _ _ HXn.out (fun hHeld => ?_); clear hK K; refine pz 6 5 HT_ ?_; refine dz HT_ ?_; clear HT_ HW_ hHeld
 (try dsimp only)
 go_wp2
 (try simp only [Exit.inBlock, Exit.then])
 refine bodyPost_ret (results_ctct rfl _ _ gi gq 73 76 #[.int .u8 0, .int .u8 0, .int .u8 0, .int .u16 0, .int .u8 0, .int .u16 0, .int .u32 0, .int .u32 0, .slice none 0 0, .slice none 0 0] #[.int .u8 0, .int .u32 0, .int .u16 0, .int .u32 0, .int .u16 0, .int .u8 0, .slice none 0 0] (0, 0) (0, 0) _ _ rfl HXi.out hu73 rfl HI73.out rfl HXq.out hu76 rfl HI76.out) rfl ?_; exact ⟨_, _, _, _, rfl, Kd.R_nil _ _ _ _ _, Kd.R_nil _ _ _ _ _, rfl, Kd.R_nil _ _ _ _ _, HB.out⟩
attribute [local go_sem] inR179
attribute [local go_sem] inP179
attribute [local go_sem] inR181
attribute [local go_sem] inP181
attribute [local go_sem] inR183
attribute [local go_sem] inP183
attribute [local go_sem] inT179
attribute [local go_sem] inT181
attribute [local go_sem] inT183
attribute [local go_sem] inF179
attribute [local go_sem] inF181
attribute [local go_sem] inF183
theorem pointed.pt_icmp (k : Nat) (si sp di dp : Int) (mt mc ms mr : Int) (mb : List Int) (vmb : Value) (r : List Int) (w : World) {base : Nat} (hmb : Kd.R (Kd.int .u8) 5 w base (fun _ => True) vmb mb) (H : pointed.f k si sp di dp (.icmp mt mc ms mr mb) = some r) :
  Calls Try.prog 70 #[.iface 183 (.agg #[.int .u8 mt, .int .u8 mc, .int .u16 ms, .int .u32 mr, vmb]), .agg #[.int .u32 si, .int .u16 sp], .agg #[.int .u32 di, .int .u16 dp]] w fun e w' => ∃ vz : Value, e = .returned vz /\ Kd.R (Kd.int .u8) 5 w' w.heap.size (fun _ => True) vz r /\ Below w.heap.size w w' := by
 have hu65 := Try.underlying65; have hu83 := Try.underlying83; have hu137 := Try.underlying137; have hu101 := Try.underlying101; have hu179 := Try.underlying179; have hu181 := Try.underlying181; have hu183 := Try.underlying183; unfold pointed.f at H
 have HB := Aside0.mk (Below.refl w.heap.size w); have HI65 : Aside0 ((Try.prog.info? 65).map (·.size) = some 2) := ⟨by kernel_rfl⟩
 have HI83 : Aside0 ((Try.prog.info? 83).map (·.size) = some 4) := ⟨by kernel_rfl⟩
 have HI137 : Aside0 ((Try.prog.info? 137).map (·.size) = some 10) := ⟨by kernel_rfl⟩
 have HI101 : Aside0 ((Try.prog.info? 101).map (·.size) = some 5) := ⟨by kernel_rfl⟩
 have HI179 : Aside0 ((Try.prog.info? 179).map (·.size) = some 4) := ⟨by kernel_rfl⟩
 have HI181 : Aside0 ((Try.prog.info? 181).map (·.size) = some 10) := ⟨by kernel_rfl⟩
 have HI183 : Aside0 ((Try.prog.info? 183).map (·.size) = some 5) := ⟨by kernel_rfl⟩
 obtain ⟨Amb, cmb, rfl, _, _⟩ := Kd.R_reads hmb; have HRmb := Aside0.mk hmb; clear hmb; have HG := Aside0.mk H; clear H
 go_enter Try.func70, Try.ntmps70
 go_upto_region 2 with (first | ((with_reducible refine gate_dst (N := 4) rfl ?_); refine box_event ?hg_ (N := 4) ?hd_ (cs := #[.int .u32 si, .int .u16 sp]) (t := 65) ?hr_ ?_; (case hd_ => rfl); (case hg_ => rfl); (case hr_ => first | (go_simp; done) | (go_simp; rfl)); intro gs hgg_ w1 hbox_ hbb_; have GHXs := Aside0.mk (show w.heap.size <= gs by rw [hgg_]; exact below_size HB.out); have HXs := Aside0.mk hbox_; have hb_ := hbb_; replace HB := mB HB hb_; replace HRmb := mR HRmb hb_; clear hb_; clear hgg_ hbox_ hbb_) | ((with_reducible refine gate_dst (N := 5) rfl ?_); refine box_event ?hg_ (N := 5) ?hd_ (cs := #[.int .u32 di, .int .u16 dp]) (t := 65) ?hr_ ?_; (case hd_ => rfl); (case hg_ => rfl); (case hr_ => first | (go_simp; done) | (go_simp; rfl)); intro gd hgg_ w2 hbox_ hbb_; have GHXd := Aside0.mk (show w.heap.size <= gd by rw [hgg_]; exact below_size HB.out); have HXd := Aside0.mk hbox_; have NE_HXs_HXd : Aside0 (gs ≠ gd) := ⟨by rw [hgg_]; exact (blk_less HXs).out⟩; have hb_ := hbb_; replace HB := mB HB hb_; replace HRmb := mR HRmb hb_; replace HXs := mX HXs hb_; clear hb_; clear hgg_ hbox_ hbb_))
 go_wp2_with fail
 refine (rewrite_message_proto.calls mt mc ms mr Amb cmb mb 1 _ (Kd.R_reads' HRmb.out).2.2 (Kd.R_reads' HRmb.out).2.1 rfl).mono ?_; rintro ev w3 ⟨rfl, hb⟩; have hb_ := hb; replace HB := mB HB hb_; replace HRmb := mR HRmb hb_; replace HXs := mX HXs hb_; replace HXd := mX HXd hb_; clear hb_; clear hb
 (try dsimp only)
 go_upto_region 4 with (((refine rw_newrow rfl rfl rfl rfl rfl HI101.out rfl (by simp [Value.oneCell']) ?_); intro x_new hx_ hbn_))
 revert x_new hx_ hbn_; intro w4 hx_ hbn_; have HXu : Aside0 (w4.heap[w3.heap.size]? = some (.cells #[.int .u8 mt, .int .u8 mc, .int .u16 ms, .int .u32 mr, .slice Amb mb.length cmb] 101 (0, 0))) := ⟨hx_⟩
 have GHXu := bsz HB; have hb_ := hbn_; replace HB := mB HB hb_; replace HRmb := mR HRmb hb_; replace HXs := mX HXs hb_; replace HXd := mX HXd hb_; clear hb_; clear hx_ hbn_; generalize w3.heap.size = gu at HXu GHXu |-
 have H := HG.out; clear HG; obtain ⟨ec, hec, H⟩ := rw_bind H; have HG := Aside0.mk H; clear H
 (try dsimp only)
 go_wp2_with (refine Kd.event_run rfl (rw_load rfl rfl HXu.out Try.underlying101 rfl HI101.out) ?_)
 refine (icmp_Echo.calls mt mc ms mr Amb cmb mb ec _ (Kd.R_reads' HRmb.out).2.2 (Kd.R_reads' HRmb.out).2.1 hec).mono ?_; rintro ev w5 ⟨rfl, hb⟩; clear hec; have hb_ := hb; replace HB := mB HB hb_; replace HRmb := mR HRmb hb_; replace HXs := mX HXs hb_; replace HXd := mX HXd hb_; replace HXu := mX HXu hb_; clear hb_; clear hb; have H := HG.out; clear HG
 cases ec with
 | false =>
  rw [if_neg (by decide)] at H
  (try dsimp only)
  obtain ⟨s, hs, H⟩ := rw_bind H; have HG := Aside0.mk H; clear H
  go_wp2_with (refine Kd.event_run rfl (rw_load rfl rfl HXu.out Try.underlying101 rfl HI101.out) ?_)
  refine (icmp_Sum.calls k mt mc ms mr Amb cmb mb s _ (Kd.R_reads' HRmb.out).2.2 (Kd.R_reads' HRmb.out).2.1 hs).mono ?_; rintro ev w6 ⟨rfl, hb⟩; clear hs; have hb_ := hb; replace HB := mB HB hb_; replace HRmb := mR HRmb hb_; replace HXs := mX HXs hb_; replace HXd := mX HXd hb_; replace HXu := mX HXu hb_; clear hb_; clear hb
  (try dsimp only)
  go_upto_region 7 with (((refine rw_set rfl rfl (i := 2) (v := .int .u16 s) (cs' := #[.int .u8 mt, .int .u8 mc, .int .u16 s, .int .u32 mr, .slice Amb mb.length cmb]) HXu.out rfl ?hr_ ?_); (case hr_ => (have m_ := (blk_cell HXu.out 2).trans (rfl : _ = some (.int .u16 ms : Value))); (have mf_ := blk_frozen HXu.out 2); first | (go_simp; done) | (go_simp; rfl)); intro w7 hs_ off_; replace HRmb := oR off_ HRmb HXu (by decide); replace HXs := oX off_ HXs HXu (by decide); replace HXd := oX off_ HXd HXu (by decide); replace HB := oB off_ HB GHXu; clear off_; replace HXu := Aside0.mk hs_; clear hs_))
  have H := HG.out; clear HG; obtain ⟨⟨rz, re⟩, hz, H⟩ := rw_bind H; obtain rfl := Option.some.inj H
  (try dsimp only)
  go_wp2_with (refine Kd.event_run rfl (rw_load rfl rfl HXu.out Try.underlying101 rfl HI101.out) ?_)
  refine (icmp_Bytes.calls mt mc s mr Amb cmb mb rz re _ (Kd.R_reads' HRmb.out).2.2 (Kd.R_reads' HRmb.out).2.1 hz).mono ?_; rintro ev w8 ⟨vz, rfl, ho, hb⟩; clear hz; have HRz := rLow ho HB; clear ho; have hb_ := hb; replace HB := mB HB hb_; replace HRmb := mR HRmb hb_; replace HXs := mX HXs hb_; replace HXd := mX HXd hb_; replace HXu := mX HXu hb_; clear hb_; clear hb
  (try dsimp only)
  go_wp2
  (try simp only [Exit.inBlock, Exit.then])
  go_ret
  exact ⟨_, rfl, HRz.out, HB.out⟩
 | true =>
  rw [if_pos rfl] at H
  have HG := Aside0.mk H; clear H; have gu_3 := cz HXu.out 3 rfl; have gs_1 := cz HXs.out 1 rfl
  (try dsimp only)
  go_upto_region 6 with (((refine rw_set rfl rfl (i := 3) (v := .int .u32 (Go.bits .or .u32 (Go.bits .and .u32 mr 65535) (sp % 4294967296 * 65536 % 4294967296))) (cs' := #[.int .u8 mt, .int .u8 mc, .int .u16 ms, .int .u32 (Go.bits .or .u32 (Go.bits .and .u32 mr 65535) (sp % 4294967296 * 65536 % 4294967296)), .slice Amb mb.length cmb]) HXu.out rfl ?hr_ ?_); (case hr_ => (have m_ := (blk_cell HXu.out 3).trans (rfl : _ = some (.int .u32 mr : Value))); (have mf_ := blk_frozen HXu.out 3); first | (go_simp; done) | (go_simp; rfl)); intro w6 hs_ off_; replace HRmb := oR off_ HRmb HXu (by decide); replace HXs := oX off_ HXs HXu (by decide); replace HXd := oX off_ HXd HXu (by decide); replace HB := oB off_ HB GHXu; clear off_; replace HXu := Aside0.mk hs_; clear hs_))
  clear gu_3 gs_1; have H := HG.out; clear HG; obtain ⟨s, hs, H⟩ := rw_bind H; have HG := Aside0.mk H; clear H
  go_wp2_with (refine Kd.event_run rfl (rw_load rfl rfl HXu.out Try.underlying101 rfl HI101.out) ?_)
  refine (icmp_Sum.calls k mt mc ms (Go.bits .or .u32 (Go.bits .and .u32 mr 65535) (sp % 4294967296 * 65536 % 4294967296)) Amb cmb mb s _ (Kd.R_reads' HRmb.out).2.2 (Kd.R_reads' HRmb.out).2.1 hs).mono ?_; rintro ev w7 ⟨rfl, hb⟩; clear hs; have hb_ := hb; replace HB := mB HB hb_; replace HRmb := mR HRmb hb_; replace HXs := mX HXs hb_; replace HXd := mX HXd hb_; replace HXu := mX HXu hb_; clear hb_; clear hb
  (try dsimp only)
  go_upto_region 7 with (((refine rw_set rfl rfl (i := 2) (v := .int .u16 s) (cs' := #[.int .u8 mt, .int .u8 mc, .int .u16 s, .int .u32 (Go.bits .or .u32 (Go.bits .and .u32 mr 65535) (sp % 4294967296 * 65536 % 4294967296)), .slice Amb mb.length cmb]) HXu.out rfl ?hr_ ?_); (case hr_ => (have m_ := (blk_cell HXu.out 2).trans (rfl : _ = some (.int .u16 ms : Value))); (have mf_ := blk_frozen HXu.out 2); first | (go_simp; done) | (go_simp; rfl)); intro w8 hs_ off_; replace HRmb := oR off_ HRmb HXu (by decide); replace HXs := oX off_ HXs HXu (by decide); replace HXd := oX off_ HXd HXu (by decide); replace HB := oB off_ HB GHXu; clear off_; replace HXu := Aside0.mk hs_; clear hs_))
  have H := HG.out; clear HG; obtain ⟨⟨rz, re⟩, hz, H⟩ := rw_bind H; obtain rfl := Option.some.inj H
  (try dsimp only)
  go_wp2_with (refine Kd.event_run rfl (rw_load rfl rfl HXu.out Try.underlying101 rfl HI101.out) ?_)
  refine (icmp_Bytes.calls mt mc s (Go.bits .or .u32 (Go.bits .and .u32 mr 65535) (sp % 4294967296 * 65536 % 4294967296)) Amb cmb mb rz re _ (Kd.R_reads' HRmb.out).2.2 (Kd.R_reads' HRmb.out).2.1 hz).mono ?_; rintro ev w9 ⟨vz, rfl, ho, hb⟩; clear hz; have HRz := rLow ho HB; clear ho; have hb_ := hb; replace HB := mB HB hb_; replace HRmb := mR HRmb hb_; replace HXs := mX HXs hb_; replace HXd := mX HXd hb_; replace HXu := mX HXu hb_; clear hb_; clear hb
  (try dsimp only)
  go_wp2
  (try simp only [Exit.inBlock, Exit.then])
  go_ret
  exact ⟨_, rfl, HRz.out, HB.out⟩
attribute [local go_sem] inR179
attribute [local go_sem] inP179
attribute [local go_sem] inR181
attribute [local go_sem] inP181
attribute [local go_sem] inR183
attribute [local go_sem] inP183
attribute [local go_sem] inT179
attribute [local go_sem] inT181
attribute [local go_sem] inT183
attribute [local go_sem] inF179
attribute [local go_sem] inF181
attribute [local go_sem] inF183
theorem look.lk_udp (k : Nat) (A : Option Addr) (c : Nat) (l : List Int) (a t i fl of_ s d : Int) (o b : List Int) (r : LK) (w : World) (hC : Kd.C (Kd.int .u8) w A l.length l) (hL : l.length <= c) (hP : ip_Parse.f k l = some (a, t, 17, i, fl, of_, s, d, o, b, 0)) (h : lookUdp k a t i fl of_ s d o b = some r) :
  Calls Try.prog 69 #[.slice A l.length c] w fun e w' => r.Post w.heap.size w e w' := by
 have hu73 := Try.underlying73; have hu76 := Try.underlying76; have hu83 := Try.underlying83; have hu137 := Try.underlying137; have hu101 := Try.underlying101; have hu179 := Try.underlying179; have hu181 := Try.underlying181; have hu183 := Try.underlying183; have HB := Aside0.mk (Below.refl w.heap.size w); have HC := Aside0.mk hC; have HL := Aside0.mk hL; have HP := Aside0.mk hP; have HF := Aside0.mk h; have HI73 : Aside0 ((Try.prog.info? 73).map (·.size) = some 10) := ⟨by kernel_rfl⟩
 have HI76 : Aside0 ((Try.prog.info? 76).map (·.size) = some 7) := ⟨by kernel_rfl⟩
 have HI83 : Aside0 ((Try.prog.info? 83).map (·.size) = some 4) := ⟨by kernel_rfl⟩
 have HI137 : Aside0 ((Try.prog.info? 137).map (·.size) = some 10) := ⟨by kernel_rfl⟩
 have HI101 : Aside0 ((Try.prog.info? 101).map (·.size) = some 5) := ⟨by kernel_rfl⟩
 have HI179 : Aside0 ((Try.prog.info? 179).map (·.size) = some 4) := ⟨by kernel_rfl⟩
 have HI181 : Aside0 ((Try.prog.info? 181).map (·.size) = some 10) := ⟨by kernel_rfl⟩
 have HI183 : Aside0 ((Try.prog.info? 183).map (·.size) = some 5) := ⟨by kernel_rfl⟩
 clear hC hL hP h
 go_enter Try.func69, Try.ntmps69
 go_upto_region 2 with (first | ((with_reducible refine gate_dst (N := 2) rfl ?_); refine box_event ?hg_ (N := 2) ?hd_ (cs := #[.int .u8 0, .int .u8 0, .int .u8 0, .int .u16 0, .int .u8 0, .int .u16 0, .int .u32 0, .int .u32 0, .slice none 0 0, .slice none 0 0]) (t := 73) ?hr_ ?_; (case hd_ => rfl); (case hg_ => rfl); (case hr_ => first | (go_simp; done) | (go_simp; rfl)); intro gi hgg_ w1 hbox_ hbb_; have GHXi := Aside0.mk (show w.heap.size <= gi by rw [hgg_]; exact below_size HB.out); have HXi := Aside0.mk hbox_; have hb_ := hbb_; replace HB := mB HB hb_; clear hb_; clear hgg_ hbox_ hbb_) | ((with_reducible refine gate_dst (N := 4) rfl ?_); refine box_event ?hg_ (N := 4) ?hd_ (cs := #[.int .u8 0, .int .u32 0, .int .u16 0, .int .u32 0, .int .u16 0, .int .u8 0, .slice none 0 0]) (t := 76) ?hr_ ?_; (case hd_ => rfl); (case hg_ => rfl); (case hr_ => first | (go_simp; done) | (go_simp; rfl)); intro gq hgg_ w2 hbox_ hbb_; have GHXq := Aside0.mk (show w.heap.size <= gq by rw [hgg_]; exact below_size HB.out); have HXq := Aside0.mk hbox_; have hb_ := hbb_; replace HB := mB HB hb_; replace HXi := mX HXi hb_; clear hb_; clear hgg_ hbox_ hbb_) | ((refine rw_newrow rfl rfl rfl rfl rfl HI76.out rfl (by simp [Value.oneCell']) ?_); intro x_new hx_ hbn_))
 revert x_new hx_ hbn_; intro w3 hx_ hbn_; have HXn : Aside0 (w3.heap[w2.heap.size]? = some (.cells #[.int .u8 0, .int .u32 0, .int .u16 0, .int .u32 0, .int .u16 0, .int .u8 0, .slice none 0 0] 76 (0, 0))) := ⟨hx_⟩
 have GHXn := bsz HB; have NE_HXq_HXn := blk_less HXq; have hb_ := hbn_; replace HB := mB HB hb_; replace HXi := mX HXi hb_; replace HXq := mX HXq hb_; clear hb_; clear hx_ hbn_; generalize w2.heap.size = gn at HXn GHXn NE_HXq_HXn |-
 go_wp2_with fail
 refine (ip_Parse.calls k A c l a t 17 i fl of_ s d o b 0 _ (Kd.C_below HC.out HB.out) HL.out HP.out).mono ?_; rintro ev w4 ⟨vo, vb, rfl, ho, ho2, hb⟩; have HRo := rLow ho HB; obtain ⟨Ao, co, rfl, _, _⟩ := Kd.R_reads ho; clear ho; have HRb := rLow ho2 HB; obtain ⟨Ab, cb, rfl, _, _⟩ := Kd.R_reads ho2; clear ho2; have hb_ := hb; replace HB := mB HB hb_; replace HXi := mX HXi hb_; replace HXq := mX HXq hb_; replace HXn := mX HXn hb_; clear hb_; clear hb HP HC HL
 (try dsimp only)
 go_upto_region 3 with (((refine rw_newrow rfl rfl rfl rfl rfl HI73.out rfl (by simp [Value.oneCell']) ?_); intro x_new hx_ hbn_))
 revert x_new hx_ hbn_; intro w5 hx_ hbn_; have HXp : Aside0 (w5.heap[w4.heap.size]? = some (.cells #[.int .u8 a, .int .u8 t, .int .u8 17, .int .u16 i, .int .u8 fl, .int .u16 of_, .int .u32 s, .int .u32 d, .slice Ao o.length co, .slice Ab b.length cb] 73 (0, 0))) := ⟨hx_⟩
 have GHXp := bsz HB; have NE_HXi_HXp := blk_less HXi; have hb_ := hbn_; replace HB := mB HB hb_; replace HXi := mX HXi hb_; replace HXq := mX HXq hb_; replace HXn := mX HXn hb_; replace HRo := mR HRo hb_; replace HRb := mR HRb hb_; clear hb_; clear hx_ hbn_; generalize w4.heap.size = gp at HXp GHXp NE_HXi_HXp |-
 have H : lookUdp k a t i fl of_ s d o b = some r := HF.out; clear HF; unfold lookUdp at H
 obtain ⟨⟨us, ud, uc, ub, e2⟩, hp, H⟩ := rw_bind H; dsimp only at H
 have HG := Aside0.mk H; clear H; have he1 : ((0 : Int) == 0) = true := rfl; have he2 : ((0 : Int) != 0) = false := rfl
 (try dsimp only)
 go_wp2_with (refine Kd.event_run rfl (rw_load rfl rfl HXp.out Try.underlying73 rfl HI73.out) ?_)
 clear he1 he2; refine (rewrite_of.of_udp a t i fl of_ s d Ao o.length co Ab cb b us ud uc e2 ub _ (Kd.R_reads' HRb.out).2.2 (Kd.R_reads' HRb.out).2.1 hp).mono ?_; rintro ev w6 ⟨vub, rfl, hub, hb⟩; clear hp; have HRub := rLow hub HB; obtain ⟨Aub, cub, rfl, _, _⟩ := Kd.R_reads hub; clear hub; have hb_ := hb; replace HB := mB HB hb_; replace HXi := mX HXi hb_; replace HXq := mX HXq hb_; replace HXn := mX HXn hb_; replace HRo := mR HRo hb_; replace HRb := mR HRb hb_; replace HXp := mX HXp hb_; clear hb_; clear hb; have H := HG.out; clear HG
 by_cases ce : e2 = 0
 ·have ce1 : (e2 == 0) = true := beq_iff_eq.2 ce
  have ce2 : (e2 != 0) = false := by rw [bne, ce1]; rfl
  rw [if_pos ce] at H
  clear ce; obtain ⟨rt, hr, H⟩ := rw_bind H; have HG := Aside0.mk H; clear H
  (try dsimp only)
  go_wp2_with (refine Kd.event_run rfl (rw_load rfl rfl HXp.out Try.underlying73 rfl HI73.out) ?_)
  refine (rewrite_datagram_right.calls k us ud uc Aub cub ub a t 17 i fl of_ s d Ao co o Ab cb b rt _ (Kd.R_reads' HRub.out).2.2 (Kd.R_reads' HRub.out).2.1 (Kd.R_reads' HRo.out).2.2 (Kd.R_reads' HRo.out).2.1 (Kd.R_reads' HRb.out).2.2 (Kd.R_reads' HRb.out).2.1 (by unfold rewrite_datagram_right.f; rw [hr]; rfl)).mono ?_; rintro ev w7 ⟨rfl, hb⟩; clear hr; have hb_ := hb; replace HB := mB HB hb_; replace HXi := mX HXi hb_; replace HXq := mX HXq hb_; replace HXn := mX HXn hb_; replace HRo := mR HRo hb_; replace HRb := mR HRb hb_; replace HXp := mX HXp hb_; replace HRub := mR HRub hb_; clear hb_; clear hb; have H := HG.out; clear HG
  cases rt with
  | false =>
   rw [if_neg (by decide)] at H
   obtain rfl := Option.some.inj H
   (try dsimp only)
   go_upto_region 9 with (fail)
   refine start_ (n := 6) (S := fun w' => w'.heap[gn]? = some (.cells #[.int .u8 0, .int .u32 0, .int .u16 0, .int .u32 0, .int .u16 0, .int .u8 0, .slice none 0 0] 76 (0, 0))) (ds := []) #[false, false, false, false, false, false] (by kernel_rfl) rfl rfl HXn.out (fun hHeld => ?_); refine with_tabW look.R9.tab look.R9.bits (fun HT_ HW_ => ?_); have hb_ := below_drew1 (Below.refl w7.heap.size w7); replace HB := mB HB hb_; replace HXi := mX HXi hb_; replace HXq := mX HXq hb_; replace HXn := mX HXn hb_; replace HRo := mR HRo hb_; replace HRb := mR HRb hb_; replace HXp := mX HXp hb_; replace HRub := mR HRub hb_; clear hb_; generalize w7.drew = w8 at HB HXi HXq HXn HRo HRb HXp HRub hHeld |-
   refine pz 0 41 HT_ ?_; refine tv 1 42 (.agg #[.int .u8 0, .int .u32 0, .int .u16 0, .int .u32 0, .int .u16 0, .int .u8 0, .slice none 0 0]) HT_ HW_ hHeld ?_ ?_
   ·intro w' s0
    exact rw_load (p := .tmp 6) (ty := 76) (by rfl) (by rfl) s0 hu76 (by rfl) HI76.out
   refine nz 42 ?_; refine oz 2 (none) HT_ (fun K hK => ?_); refine skip_row (by rfl) (by rfl) rfl rfl rfl HXi.out HI73.out rfl (by simp [Value.oneCell']) ?_; intro w9 hs_ off_; replace HXq := oX off_ HXq HXi (by decide); replace HXn := oX off_ HXn HXi (by decide); replace HRo := oR off_ HRo HXi (by decide); replace HRb := oR off_ HRb HXi (by decide); replace HXp := oN off_ HXp (ne_sym NE_HXi_HXp); replace HRub := oR off_ HRub HXi (by decide); replace HB := oB off_ HB GHXi; clear off_; replace HXi := Aside0.mk hs_; clear hs_; refine hK.out _ _ HXn.out (fun hHeld => ?_); clear hK K; refine pz 3 3 HT_ ?_; refine oz 4 (none) HT_ (fun K hK => ?_); refine skip_row (by rfl) (by rfl) rfl rfl rfl HXq.out HI76.out rfl (by simp [Value.oneCell']) ?_; intro w10 hs_ off_; replace HXi := oX off_ HXi HXq (by decide); replace HXn := oN off_ HXn (ne_sym NE_HXq_HXn)
   replace HRo := oR off_ HRo HXq (by decide); replace HRb := oR off_ HRb HXq (by decide); replace HXp := oX off_ HXp HXq (by decide); replace HRub := oR off_ HRub HXq (by decide); replace HB := oB off_ HB GHXq; clear off_; replace HXq := Aside0.mk hs_; clear hs_; refine hK.out _ _ HXn.out (fun hHeld => ?_); clear hK K; refine pz 5 5 HT_ ?_; refine dz HT_ ?_; clear HT_ HW_ hHeld
   (try dsimp only)
   go_wp2
   (try simp only [Exit.inBlock, Exit.then])
   refine bodyPost_ret (results_ctct rfl _ _ gi gq 73 76 #[.int .u8 0, .int .u8 0, .int .u8 0, .int .u16 0, .int .u8 0, .int .u16 0, .int .u32 0, .int .u32 0, .slice none 0 0, .slice none 0 0] #[.int .u8 0, .int .u32 0, .int .u16 0, .int .u32 0, .int .u16 0, .int .u8 0, .slice none 0 0] (0, 0) (0, 0) _ _ rfl HXi.out hu73 rfl HI73.out rfl HXq.out hu76 rfl HI76.out) rfl ?_; exact ⟨_, _, _, _, rfl, Kd.R_nil _ _ _ _ _, Kd.R_nil _ _ _ _ _, rfl, Kd.R_nil _ _ _ _ _, HB.out⟩
  | true =>
   rw [if_pos rfl] at H
   have HG := Aside0.mk H; clear H
   (try dsimp only)
   have gp_2 := cz HXp.out 2 rfl; have gp_6 := cz HXp.out 6 rfl; have gp_7 := cz HXp.out 7 rfl
   go_upto_region 11 with (((refine rw_newrow rfl rfl rfl rfl rfl HI76.out rfl (by simp [Value.oneCell']) ?_); intro x_new hx_ hbn_))
   clear gp_2 gp_6 gp_7; revert x_new hx_ hbn_; intro w8 hx_ hbn_; have HXf : Aside0 (w8.heap[w7.heap.size]? = some (.cells #[.int .u8 17, .int .u32 s, .int .u16 0, .int .u32 d, .int .u16 0, .int .u8 0, .slice none 0 0] 76 (0, 0))) := ⟨hx_⟩
   have GHXf := bsz HB; have NE_HXq_HXf := blk_less HXq; have NE_HXn_HXf := blk_less HXn; have hb_ := hbn_; replace HB := mB HB hb_; replace HXi := mX HXi hb_; replace HXq := mX HXq hb_; replace HXn := mX HXn hb_; replace HRo := mR HRo hb_; replace HRb := mR HRb hb_; replace HXp := mX HXp hb_; replace HRub := mR HRub hb_; clear hb_; clear hx_ hbn_; generalize w7.heap.size = gf at HXf GHXf NE_HXq_HXf NE_HXn_HXf |-
   go_wp2_with fail
   refine (rewrite_datagram_proto.calls us ud uc Aub cub ub 17 _ (Kd.R_reads' HRub.out).2.2 (Kd.R_reads' HRub.out).2.1 rfl).mono ?_; rintro ev w9 ⟨rfl, hb⟩; have hb_ := hb; replace HB := mB HB hb_; replace HXi := mX HXi hb_; replace HXq := mX HXq hb_; replace HXn := mX HXn hb_; replace HRo := mR HRo hb_; replace HRb := mR HRb hb_; replace HXp := mX HXp hb_; replace HRub := mR HRub hb_; replace HXf := mX HXf hb_; clear hb_; clear hb
   (try dsimp only)
   go_upto_region 21 with (((refine rw_newrow rfl rfl rfl rfl rfl HI179.out rfl (by simp [Value.oneCell']) ?_); intro x_new hx_ hbn_))
   revert x_new hx_ hbn_; intro w10 hx_ hbn_; have HXu : Aside0 (w10.heap[w9.heap.size]? = some (.cells #[.int .u16 us, .int .u16 ud, .int .u16 uc, .slice Aub ub.length cub] 179 (0, 0))) := ⟨hx_⟩
   have GHXu := bsz HB; have hb_ := hbn_; replace HB := mB HB hb_; replace HXi := mX HXi hb_; replace HXq := mX HXq hb_; replace HXn := mX HXn hb_; replace HRo := mR HRo hb_; replace HRb := mR HRb hb_; replace HXp := mX HXp hb_; replace HRub := mR HRub hb_; replace HXf := mX HXf hb_; clear hb_; clear hx_ hbn_; generalize w9.heap.size = gu at HXu GHXu |-
   refine start_ (n := 12) (S := fun w' => w'.cell? ⟨gu, 0, none⟩ = some (.int .u16 us) /\ w'.cell? ⟨gu, 1, none⟩ = some (.int .u16 ud)) (ds := []) #[false, false, false, false, false, false, false, false, false, false, false, false] (by kernel_rfl) rfl rfl ⟨((blk_cell HXu.out 0).trans rfl), ((blk_cell HXu.out 1).trans rfl)⟩ (fun hHeld => ?_); refine with_tabW look.R21.tab look.R21.bits (fun HT_ HW_ => ?_); have hb_ := below_drew1 (Below.refl w10.heap.size w10); replace HB := mB HB hb_; replace HXi := mX HXi hb_; replace HXq := mX HXq hb_; replace HXn := mX HXn hb_; replace HRo := mR HRo hb_; replace HRb := mR HRb hb_; replace HXp := mX HXp hb_; replace HRub := mR HRub hb_; replace HXf := mX HXf hb_; replace HXu := mX HXu hb_; clear hb_; generalize w10.drew = w11 at HB HXi HXq HXn HRo HRb HXp HRub HXf HXu hHeld |-
   refine pz 0 94 HT_ ?_; refine pz 1 95 HT_ ?_; refine pz 3 97 HT_ ?_; refine pz 4 98 HT_ ?_; refine tz 2 96 HT_ HW_ hHeld ?_; refine pz 6 100 HT_ ?_; refine pz 7 101 HT_ ?_; refine tz 5 99 HT_ HW_ hHeld ?_; refine oz 8 (none) HT_ (fun K hK => ?_); refine skip_cell (i := 2) (v := .int .u16 us) (cs' := #[.int .u8 17, .int .u32 s, .int .u16 us, .int .u32 d, .int .u16 0, .int .u8 0, .slice none 0 0]) (by rfl) (by rfl) HXf.out rfl (by (have m_ := (blk_cell HXf.out 2).trans (rfl : _ = some (.int .u16 0 : Value))); (have mf_ := blk_frozen HXf.out 2); first | (go_simp; done) | (go_simp; rfl)) ?_; intro w12 hs_ off_; replace HXi := oX off_ HXi HXf (by decide); replace HXq := oN off_ HXq NE_HXq_HXf; replace HXn := oN off_ HXn NE_HXn_HXf; replace HRo := oR off_ HRo HXf (by decide); replace HRb := oR off_ HRb HXf (by decide); replace HXp := oX off_ HXp HXf (by decide)
   replace HRub := oR off_ HRub HXf (by decide); replace HXu := oX off_ HXu HXf (by decide); replace HB := oB off_ HB GHXf; clear off_; replace HXf := Aside0.mk hs_; clear hs_; refine hK.out _ _ ⟨((blk_cell HXu.out 0).trans rfl), ((blk_cell HXu.out 1).trans rfl)⟩ (fun hHeld => ?_); clear hK K; refine pz 9 102 HT_ ?_; refine pz 10 103 HT_ ?_; refine oz 11 (none) HT_ (fun K hK => ?_); refine skip_cell (i := 4) (v := .int .u16 ud) (cs' := #[.int .u8 17, .int .u32 s, .int .u16 us, .int .u32 d, .int .u16 ud, .int .u8 0, .slice none 0 0]) (by rfl) (by rfl) HXf.out rfl (by (have m_ := (blk_cell HXf.out 4).trans (rfl : _ = some (.int .u16 0 : Value))); (have mf_ := blk_frozen HXf.out 4); first | (go_simp; done) | (go_simp; rfl)) ?_; intro w13 hs_ off_; replace HXi := oX off_ HXi HXf (by decide); replace HXq := oN off_ HXq NE_HXq_HXf; replace HXn := oN off_ HXn NE_HXn_HXf
   replace HRo := oR off_ HRo HXf (by decide); replace HRb := oR off_ HRb HXf (by decide); replace HXp := oX off_ HXp HXf (by decide); replace HRub := oR off_ HRub HXf (by decide); replace HXu := oX off_ HXu HXf (by decide); replace HB := oB off_ HB GHXf; clear off_; replace HXf := Aside0.mk hs_; clear hs_; refine hK.out _ _ ⟨((blk_cell HXu.out 0).trans rfl), ((blk_cell HXu.out 1).trans rfl)⟩ (fun hHeld => ?_); clear hK K; refine dz HT_ ?_; clear HT_ HW_ hHeld; have H := HG.out; clear HG; obtain rfl := Option.some.inj H
   (try dsimp only)
   go_upto_region 25 with (fail)
   refine start_ (n := 7) (S := fun w' => w'.heap[gp]? = some (.cells #[.int .u8 a, .int .u8 t, .int .u8 17, .int .u16 i, .int .u8 fl, .int .u16 of_, .int .u32 s, .int .u32 d, .slice Ao o.length co, .slice Ab b.length cb] 73 (0, 0)) /\ w'.heap[gf]? = some (.cells #[.int .u8 17, .int .u32 s, .int .u16 us, .int .u32 d, .int .u16 ud, .int .u8 0, .slice none 0 0] 76 (0, 0))) (ds := []) #[false, false, false, false, false, false, false] (by kernel_rfl) rfl rfl ⟨HXp.out, HXf.out⟩ (fun hHeld => ?_); refine with_tabW look.R25.tab look.R25.bits (fun HT_ HW_ => ?_); have hb_ := below_drew1 (Below.refl w13.heap.size w13); replace HB := mB HB hb_; replace HXi := mX HXi hb_; replace HXq := mX HXq hb_; replace HXn := mX HXn hb_; replace HRo := mR HRo hb_; replace HRb := mR HRb hb_; replace HXp := mX HXp hb_; replace HRub := mR HRub hb_; replace HXf := mX HXf hb_; replace HXu := mX HXu hb_; clear hb_
   generalize w13.drew = w14 at HB HXi HXq HXn HRo HRb HXp HRub HXf HXu hHeld |-
   refine pz 1 123 HT_ ?_; refine tv 0 122 (.agg #[.int .u8 a, .int .u8 t, .int .u8 17, .int .u16 i, .int .u8 fl, .int .u16 of_, .int .u32 s, .int .u32 d, .slice Ao o.length co, .slice Ab b.length cb]) HT_ HW_ hHeld ?_ ?_
   ·intro w' s0
    obtain ⟨s0, s1⟩ := s0; exact rw_load (p := .tmp 7) (ty := 73) (by rfl) (by rfl) s0 hu73 (by rfl) HI73.out
   refine nz 122 ?_; refine tv 2 124 (.agg #[.int .u8 17, .int .u32 s, .int .u16 us, .int .u32 d, .int .u16 ud, .int .u8 0, .slice none 0 0]) HT_ HW_ hHeld ?_ ?_
   ·intro w' s0
    obtain ⟨s0, s1⟩ := s0; exact rw_load (p := .tmp 10) (ty := 76) (by rfl) (by rfl) s1 hu76 (by rfl) HI76.out
   refine nz 124 ?_; refine oz 3 (none) HT_ (fun K hK => ?_); refine skip_row (by rfl) (by rfl) rfl rfl rfl HXi.out HI73.out rfl (by simp [Value.oneCell']) ?_; intro w15 hs_ off_; replace HXq := oX off_ HXq HXi (by decide); replace HXn := oX off_ HXn HXi (by decide); replace HRo := oR off_ HRo HXi (by decide); replace HRb := oR off_ HRb HXi (by decide); replace HXp := oN off_ HXp (ne_sym NE_HXi_HXp); replace HRub := oR off_ HRub HXi (by decide); replace HXf := oX off_ HXf HXi (by decide); replace HXu := oX off_ HXu HXi (by decide); replace HB := oB off_ HB GHXi; clear off_; replace HXi := Aside0.mk hs_; clear hs_; refine hK.out _ _ ⟨HXp.out, HXf.out⟩ (fun hHeld => ?_); clear hK K; refine pz 4 3 HT_ ?_; refine oz 5 (none) HT_ (fun K hK => ?_); refine skip_row (by rfl) (by rfl) rfl rfl rfl HXq.out HI76.out rfl (by simp [Value.oneCell']) ?_; intro w16 hs_ off_
   replace HXi := oX off_ HXi HXq (by decide); replace HXn := oN off_ HXn (ne_sym NE_HXq_HXn); replace HRo := oR off_ HRo HXq (by decide); replace HRb := oR off_ HRb HXq (by decide); replace HXp := oX off_ HXp HXq (by decide); replace HRub := oR off_ HRub HXq (by decide); replace HXf := oN off_ HXf (ne_sym NE_HXq_HXf); replace HXu := oX off_ HXu HXq (by decide); replace HB := oB off_ HB GHXq; clear off_; replace HXq := Aside0.mk hs_; clear hs_; refine hK.out _ _ ⟨HXp.out, HXf.out⟩ (fun hHeld => ?_); clear hK K; refine pz 6 5 HT_ ?_; refine dz HT_ ?_; clear HT_ HW_ hHeld
   (try dsimp only)
   go_wp2
   (try simp only [Exit.inBlock, Exit.then])
   refine bodyPost_ret (results_ctct rfl _ _ gi gq 73 76 #[.int .u8 a, .int .u8 t, .int .u8 17, .int .u16 i, .int .u8 fl, .int .u16 of_, .int .u32 s, .int .u32 d, .slice Ao o.length co, .slice Ab b.length cb] #[.int .u8 17, .int .u32 s, .int .u16 us, .int .u32 d, .int .u16 ud, .int .u8 0, .slice none 0 0] (0, 0) (0, 0) _ _ rfl HXi.out hu73 rfl HI73.out rfl HXq.out hu76 rfl HI76.out) rfl ?_; exact ⟨_, _, _, _, rfl, HRo.out, HRb.out, ⟨_, rfl, HRub.out⟩, Kd.R_nil _ _ _ _ _, HB.out⟩
 ·have ce1 : (e2 == 0) = false := beq_eq_false_iff_ne.2 ce
  have ce2 : (e2 != 0) = true := bne_iff_ne.2 ce; rw [if_neg ce] at H
  clear ce; obtain rfl := Option.some.inj H
  (try dsimp only)
  go_upto_region 7 with (fail)
  refine start_ (n := 7) (S := fun w' => w'.heap[gn]? = some (.cells #[.int .u8 0, .int .u32 0, .int .u16 0, .int .u32 0, .int .u16 0, .int .u8 0, .slice none 0 0] 76 (0, 0))) (ds := []) #[false, false, false, false, false, false, false] (by kernel_rfl) rfl rfl HXn.out (fun hHeld => ?_); refine with_tabW look.R7.tab look.R7.bits (fun HT_ HW_ => ?_); have hb_ := below_drew1 (Below.refl w6.heap.size w6); replace HB := mB HB hb_; replace HXi := mX HXi hb_; replace HXq := mX HXq hb_; replace HXn := mX HXn hb_; replace HRo := mR HRo hb_; replace HRb := mR HRb hb_; replace HXp := mX HXp hb_; replace HRub := mR HRub hb_; clear hb_; generalize w6.drew = w7 at HB HXi HXq HXn HRo HRb HXp HRub hHeld |-
  refine pz 0 34 HT_ ?_; refine pz 2 36 HT_ ?_; refine tv 1 35 (.agg #[.int .u8 0, .int .u32 0, .int .u16 0, .int .u32 0, .int .u16 0, .int .u8 0, .slice none 0 0]) HT_ HW_ hHeld ?_ ?_
  ·intro w' s0
   exact rw_load (p := .tmp 6) (ty := 76) (by rfl) (by rfl) s0 hu76 (by rfl) HI76.out
  refine nz 35 ?_; refine oz 3 (none) HT_ (fun K hK => ?_); refine skip_row (by rfl) (by rfl) rfl rfl rfl HXi.out HI73.out rfl (by simp [Value.oneCell']) ?_; intro w8 hs_ off_; replace HXq := oX off_ HXq HXi (by decide); replace HXn := oX off_ HXn HXi (by decide); replace HRo := oR off_ HRo HXi (by decide); replace HRb := oR off_ HRb HXi (by decide); replace HXp := oN off_ HXp (ne_sym NE_HXi_HXp); replace HRub := oR off_ HRub HXi (by decide); replace HB := oB off_ HB GHXi; clear off_; replace HXi := Aside0.mk hs_; clear hs_; refine hK.out _ _ HXn.out (fun hHeld => ?_); clear hK K; refine pz 4 3 HT_ ?_; refine oz 5 (none) HT_ (fun K hK => ?_); refine skip_row (by rfl) (by rfl) rfl rfl rfl HXq.out HI76.out rfl (by simp [Value.oneCell']) ?_; intro w9 hs_ off_; replace HXi := oX off_ HXi HXq (by decide); replace HXn := oN off_ HXn (ne_sym NE_HXq_HXn)
  replace HRo := oR off_ HRo HXq (by decide); replace HRb := oR off_ HRb HXq (by decide); replace HXp := oX off_ HXp HXq (by decide); replace HRub := oR off_ HRub HXq (by decide); replace HB := oB off_ HB GHXq; clear off_; replace HXq := Aside0.mk hs_; clear hs_; refine hK.out _ _ HXn.out (fun hHeld => ?_); clear hK K; refine pz 6 5 HT_ ?_; refine dz HT_ ?_; clear HT_ HW_ hHeld
  (try dsimp only)
  go_wp2
  (try simp only [Exit.inBlock, Exit.then])
  refine bodyPost_ret (results_ctct rfl _ _ gi gq 73 76 #[.int .u8 0, .int .u8 0, .int .u8 0, .int .u16 0, .int .u8 0, .int .u16 0, .int .u32 0, .int .u32 0, .slice none 0 0, .slice none 0 0] #[.int .u8 0, .int .u32 0, .int .u16 0, .int .u32 0, .int .u16 0, .int .u8 0, .slice none 0 0] (0, 0) (0, 0) _ _ rfl HXi.out hu73 rfl HI73.out rfl HXq.out hu76 rfl HI76.out) rfl ?_; exact ⟨_, _, _, _, rfl, Kd.R_nil _ _ _ _ _, Kd.R_nil _ _ _ _ _, rfl, Kd.R_nil _ _ _ _ _, HB.out⟩
attribute [local go_sem] inR179
attribute [local go_sem] inP179
attribute [local go_sem] inR181
attribute [local go_sem] inP181
attribute [local go_sem] inR183
attribute [local go_sem] inP183
attribute [local go_sem] inT179
attribute [local go_sem] inT181
attribute [local go_sem] inT183
attribute [local go_sem] inF179
attribute [local go_sem] inF181
attribute [local go_sem] inF183
theorem look.lk_tcp (k : Nat) (A : Option Addr) (c : Nat) (l : List Int) (a t i fl of_ s d : Int) (o b : List Int) (r : LK) (w : World) (hC : Kd.C (Kd.int .u8) w A l.length l) (hL : l.length <= c) (hP : ip_Parse.f k l = some (a, t, 6, i, fl, of_, s, d, o, b, 0)) (h : lookTcp k a t i fl of_ s d o b = some r) :
  Calls Try.prog 69 #[.slice A l.length c] w fun e w' => r.Post w.heap.size w e w' := by
 have hu73 := Try.underlying73; have hu76 := Try.underlying76; have hu83 := Try.underlying83; have hu137 := Try.underlying137; have hu101 := Try.underlying101; have hu179 := Try.underlying179; have hu181 := Try.underlying181; have hu183 := Try.underlying183; have HB := Aside0.mk (Below.refl w.heap.size w); have HC := Aside0.mk hC; have HL := Aside0.mk hL; have HP := Aside0.mk hP; have HF := Aside0.mk h; have HI73 : Aside0 ((Try.prog.info? 73).map (·.size) = some 10) := ⟨by kernel_rfl⟩
 have HI76 : Aside0 ((Try.prog.info? 76).map (·.size) = some 7) := ⟨by kernel_rfl⟩
 have HI83 : Aside0 ((Try.prog.info? 83).map (·.size) = some 4) := ⟨by kernel_rfl⟩
 have HI137 : Aside0 ((Try.prog.info? 137).map (·.size) = some 10) := ⟨by kernel_rfl⟩
 have HI101 : Aside0 ((Try.prog.info? 101).map (·.size) = some 5) := ⟨by kernel_rfl⟩
 have HI179 : Aside0 ((Try.prog.info? 179).map (·.size) = some 4) := ⟨by kernel_rfl⟩
 have HI181 : Aside0 ((Try.prog.info? 181).map (·.size) = some 10) := ⟨by kernel_rfl⟩
 have HI183 : Aside0 ((Try.prog.info? 183).map (·.size) = some 5) := ⟨by kernel_rfl⟩
 clear hC hL hP h
 go_enter Try.func69, Try.ntmps69
 go_upto_region 2 with (first | ((with_reducible refine gate_dst (N := 2) rfl ?_); refine box_event ?hg_ (N := 2) ?hd_ (cs := #[.int .u8 0, .int .u8 0, .int .u8 0, .int .u16 0, .int .u8 0, .int .u16 0, .int .u32 0, .int .u32 0, .slice none 0 0, .slice none 0 0]) (t := 73) ?hr_ ?_; (case hd_ => rfl); (case hg_ => rfl); (case hr_ => first | (go_simp; done) | (go_simp; rfl)); intro gi hgg_ w1 hbox_ hbb_; have GHXi := Aside0.mk (show w.heap.size <= gi by rw [hgg_]; exact below_size HB.out); have HXi := Aside0.mk hbox_; have hb_ := hbb_; replace HB := mB HB hb_; clear hb_; clear hgg_ hbox_ hbb_) | ((with_reducible refine gate_dst (N := 4) rfl ?_); refine box_event ?hg_ (N := 4) ?hd_ (cs := #[.int .u8 0, .int .u32 0, .int .u16 0, .int .u32 0, .int .u16 0, .int .u8 0, .slice none 0 0]) (t := 76) ?hr_ ?_; (case hd_ => rfl); (case hg_ => rfl); (case hr_ => first | (go_simp; done) | (go_simp; rfl)); intro gq hgg_ w2 hbox_ hbb_; have GHXq := Aside0.mk (show w.heap.size <= gq by rw [hgg_]; exact below_size HB.out); have HXq := Aside0.mk hbox_; have hb_ := hbb_; replace HB := mB HB hb_; replace HXi := mX HXi hb_; clear hb_; clear hgg_ hbox_ hbb_) | ((refine rw_newrow rfl rfl rfl rfl rfl HI76.out rfl (by simp [Value.oneCell']) ?_); intro x_new hx_ hbn_))
 revert x_new hx_ hbn_; intro w3 hx_ hbn_; have HXn : Aside0 (w3.heap[w2.heap.size]? = some (.cells #[.int .u8 0, .int .u32 0, .int .u16 0, .int .u32 0, .int .u16 0, .int .u8 0, .slice none 0 0] 76 (0, 0))) := ⟨hx_⟩
 have GHXn := bsz HB; have NE_HXq_HXn := blk_less HXq; have hb_ := hbn_; replace HB := mB HB hb_; replace HXi := mX HXi hb_; replace HXq := mX HXq hb_; clear hb_; clear hx_ hbn_; generalize w2.heap.size = gn at HXn GHXn NE_HXq_HXn |-
 go_wp2_with fail
 refine (ip_Parse.calls k A c l a t 6 i fl of_ s d o b 0 _ (Kd.C_below HC.out HB.out) HL.out HP.out).mono ?_; rintro ev w4 ⟨vo, vb, rfl, ho, ho2, hb⟩; have HRo := rLow ho HB; obtain ⟨Ao, co, rfl, _, _⟩ := Kd.R_reads ho; clear ho; have HRb := rLow ho2 HB; obtain ⟨Ab, cb, rfl, _, _⟩ := Kd.R_reads ho2; clear ho2; have hb_ := hb; replace HB := mB HB hb_; replace HXi := mX HXi hb_; replace HXq := mX HXq hb_; replace HXn := mX HXn hb_; clear hb_; clear hb HP HC HL
 (try dsimp only)
 go_upto_region 3 with (((refine rw_newrow rfl rfl rfl rfl rfl HI73.out rfl (by simp [Value.oneCell']) ?_); intro x_new hx_ hbn_))
 revert x_new hx_ hbn_; intro w5 hx_ hbn_; have HXp : Aside0 (w5.heap[w4.heap.size]? = some (.cells #[.int .u8 a, .int .u8 t, .int .u8 6, .int .u16 i, .int .u8 fl, .int .u16 of_, .int .u32 s, .int .u32 d, .slice Ao o.length co, .slice Ab b.length cb] 73 (0, 0))) := ⟨hx_⟩
 have GHXp := bsz HB; have NE_HXi_HXp := blk_less HXi; have hb_ := hbn_; replace HB := mB HB hb_; replace HXi := mX HXi hb_; replace HXq := mX HXq hb_; replace HXn := mX HXn hb_; replace HRo := mR HRo hb_; replace HRb := mR HRb hb_; clear hb_; clear hx_ hbn_; generalize w4.heap.size = gp at HXp GHXp NE_HXi_HXp |-
 have H : lookTcp k a t i fl of_ s d o b = some r := HF.out; clear HF; unfold lookTcp at H
 obtain ⟨⟨ts, td, tq, ta, tf, tw, tc, tu, to_, tb, e2⟩, hp, H⟩ := rw_bind H; dsimp only at H
 have HG := Aside0.mk H; clear H; have he1 : ((0 : Int) == 0) = true := rfl; have he2 : ((0 : Int) != 0) = false := rfl
 (try dsimp only)
 go_wp2_with (refine Kd.event_run rfl (rw_load rfl rfl HXp.out Try.underlying73 rfl HI73.out) ?_)
 clear he1 he2; refine (rewrite_of.of_tcp a t i fl of_ s d Ao o.length co Ab cb b ts td tq ta tf tw tc tu e2 to_ tb _ (Kd.R_reads' HRb.out).2.2 (Kd.R_reads' HRb.out).2.1 hp).mono ?_; rintro ev w6 ⟨vto_, vtb, rfl, hto_, htb, hb⟩; clear hp; have HRto_ := rLow hto_ HB; obtain ⟨Ato_, cto_, rfl, _, _⟩ := Kd.R_reads hto_; clear hto_; have HRtb := rLow htb HB; obtain ⟨Atb, ctb, rfl, _, _⟩ := Kd.R_reads htb; clear htb; have hb_ := hb; replace HB := mB HB hb_; replace HXi := mX HXi hb_; replace HXq := mX HXq hb_; replace HXn := mX HXn hb_; replace HRo := mR HRo hb_; replace HRb := mR HRb hb_; replace HXp := mX HXp hb_; clear hb_; clear hb; have H := HG.out; clear HG
 by_cases ce : e2 = 0
 ·have ce1 : (e2 == 0) = true := beq_iff_eq.2 ce
  have ce2 : (e2 != 0) = false := by rw [bne, ce1]; rfl
  rw [if_pos ce] at H
  clear ce; obtain ⟨rt, hr, H⟩ := rw_bind H; have HG := Aside0.mk H; clear H
  (try dsimp only)
  go_wp2_with (refine Kd.event_run rfl (rw_load rfl rfl HXp.out Try.underlying73 rfl HI73.out) ?_)
  refine (rewrite_segment_right.calls k ts td tq ta tf tw tc tu Ato_ cto_ to_ Atb ctb tb a t 6 i fl of_ s d Ao co o Ab cb b rt _ (Kd.R_reads' HRto_.out).2.2 (Kd.R_reads' HRto_.out).2.1 (Kd.R_reads' HRtb.out).2.2 (Kd.R_reads' HRtb.out).2.1 (Kd.R_reads' HRo.out).2.2 (Kd.R_reads' HRo.out).2.1 (Kd.R_reads' HRb.out).2.2 (Kd.R_reads' HRb.out).2.1 (by unfold rewrite_segment_right.f; rw [hr]; rfl)).mono ?_; rintro ev w7 ⟨rfl, hb⟩; clear hr; have hb_ := hb; replace HB := mB HB hb_; replace HXi := mX HXi hb_; replace HXq := mX HXq hb_; replace HXn := mX HXn hb_; replace HRo := mR HRo hb_; replace HRb := mR HRb hb_; replace HXp := mX HXp hb_; replace HRto_ := mR HRto_ hb_; replace HRtb := mR HRtb hb_; clear hb_; clear hb; have H := HG.out; clear HG
  cases rt with
  | false =>
   rw [if_neg (by decide)] at H
   obtain rfl := Option.some.inj H
   (try dsimp only)
   go_upto_region 9 with (fail)
   refine start_ (n := 6) (S := fun w' => w'.heap[gn]? = some (.cells #[.int .u8 0, .int .u32 0, .int .u16 0, .int .u32 0, .int .u16 0, .int .u8 0, .slice none 0 0] 76 (0, 0))) (ds := []) #[false, false, false, false, false, false] (by kernel_rfl) rfl rfl HXn.out (fun hHeld => ?_); refine with_tabW look.R9.tab look.R9.bits (fun HT_ HW_ => ?_); have hb_ := below_drew1 (Below.refl w7.heap.size w7); replace HB := mB HB hb_; replace HXi := mX HXi hb_; replace HXq := mX HXq hb_; replace HXn := mX HXn hb_; replace HRo := mR HRo hb_; replace HRb := mR HRb hb_; replace HXp := mX HXp hb_; replace HRto_ := mR HRto_ hb_; replace HRtb := mR HRtb hb_; clear hb_; generalize w7.drew = w8 at HB HXi HXq HXn HRo HRb HXp HRto_ HRtb hHeld |-
   refine pz 0 41 HT_ ?_; refine tv 1 42 (.agg #[.int .u8 0, .int .u32 0, .int .u16 0, .int .u32 0, .int .u16 0, .int .u8 0, .slice none 0 0]) HT_ HW_ hHeld ?_ ?_
   ·intro w' s0
    exact rw_load (p := .tmp 6) (ty := 76) (by rfl) (by rfl) s0 hu76 (by rfl) HI76.out
   refine nz 42 ?_; refine oz 2 (none) HT_ (fun K hK => ?_); refine skip_row (by rfl) (by rfl) rfl rfl rfl HXi.out HI73.out rfl (by simp [Value.oneCell']) ?_; intro w9 hs_ off_; replace HXq := oX off_ HXq HXi (by decide); replace HXn := oX off_ HXn HXi (by decide); replace HRo := oR off_ HRo HXi (by decide); replace HRb := oR off_ HRb HXi (by decide); replace HXp := oN off_ HXp (ne_sym NE_HXi_HXp); replace HRto_ := oR off_ HRto_ HXi (by decide); replace HRtb := oR off_ HRtb HXi (by decide); replace HB := oB off_ HB GHXi; clear off_; replace HXi := Aside0.mk hs_; clear hs_; refine hK.out _ _ HXn.out (fun hHeld => ?_); clear hK K; refine pz 3 3 HT_ ?_; refine oz 4 (none) HT_ (fun K hK => ?_); refine skip_row (by rfl) (by rfl) rfl rfl rfl HXq.out HI76.out rfl (by simp [Value.oneCell']) ?_; intro w10 hs_ off_; replace HXi := oX off_ HXi HXq (by decide)
   replace HXn := oN off_ HXn (ne_sym NE_HXq_HXn); replace HRo := oR off_ HRo HXq (by decide); replace HRb := oR off_ HRb HXq (by decide); replace HXp := oX off_ HXp HXq (by decide); replace HRto_ := oR off_ HRto_ HXq (by decide); replace HRtb := oR off_ HRtb HXq (by decide); replace HB := oB off_ HB GHXq; clear off_; replace HXq := Aside0.mk hs_; clear hs_; refine hK.out _ _ HXn.out (fun hHeld => ?_); clear hK K; refine pz 5 5 HT_ ?_; refine dz HT_ ?_; clear HT_ HW_ hHeld
   (try dsimp only)
   go_wp2
   (try simp only [Exit.inBlock, Exit.then])
   refine bodyPost_ret (results_ctct rfl _ _ gi gq 73 76 #[.int .u8 0, .int .u8 0, .int .u8 0, .int .u16 0, .int .u8 0, .int .u16 0, .int .u32 0, .int .u32 0, .slice none 0 0, .slice none 0 0] #[.int .u8 0, .int .u32 0, .int .u16 0, .int .u32 0, .int .u16 0, .int .u8 0, .slice none 0 0] (0, 0) (0, 0) _ _ rfl HXi.out hu73 rfl HI73.out rfl HXq.out hu76 rfl HI76.out) rfl ?_; exact ⟨_, _, _, _, rfl, Kd.R_nil _ _ _ _ _, Kd.R_nil _ _ _ _ _, rfl, Kd.R_nil _ _ _ _ _, HB.out⟩
  | true =>
   rw [if_pos rfl] at H
   have HG := Aside0.mk H; clear H
   (try dsimp only)
   have gp_2 := cz HXp.out 2 rfl; have gp_6 := cz HXp.out 6 rfl; have gp_7 := cz HXp.out 7 rfl
   go_upto_region 11 with (((refine rw_newrow rfl rfl rfl rfl rfl HI76.out rfl (by simp [Value.oneCell']) ?_); intro x_new hx_ hbn_))
   clear gp_2 gp_6 gp_7; revert x_new hx_ hbn_; intro w8 hx_ hbn_; have HXf : Aside0 (w8.heap[w7.heap.size]? = some (.cells #[.int .u8 6, .int .u32 s, .int .u16 0, .int .u32 d, .int .u16 0, .int .u8 0, .slice none 0 0] 76 (0, 0))) := ⟨hx_⟩
   have GHXf := bsz HB; have NE_HXq_HXf := blk_less HXq; have NE_HXn_HXf := blk_less HXn; have hb_ := hbn_; replace HB := mB HB hb_; replace HXi := mX HXi hb_; replace HXq := mX HXq hb_; replace HXn := mX HXn hb_; replace HRo := mR HRo hb_; replace HRb := mR HRb hb_; replace HXp := mX HXp hb_; replace HRto_ := mR HRto_ hb_; replace HRtb := mR HRtb hb_; clear hb_; clear hx_ hbn_; generalize w7.heap.size = gf at HXf GHXf NE_HXq_HXf NE_HXn_HXf |-
   go_wp2_with fail
   refine (rewrite_segment_proto.calls ts td tq ta tf tw tc tu Ato_ cto_ to_ Atb ctb tb 6 _ (Kd.R_reads' HRto_.out).2.2 (Kd.R_reads' HRto_.out).2.1 (Kd.R_reads' HRtb.out).2.2 (Kd.R_reads' HRtb.out).2.1 rfl).mono ?_; rintro ev w9 ⟨rfl, hb⟩; have hb_ := hb; replace HB := mB HB hb_; replace HXi := mX HXi hb_; replace HXq := mX HXq hb_; replace HXn := mX HXn hb_; replace HRo := mR HRo hb_; replace HRb := mR HRb hb_; replace HXp := mX HXp hb_; replace HRto_ := mR HRto_ hb_; replace HRtb := mR HRtb hb_; replace HXf := mX HXf hb_; clear hb_; clear hb
   (try dsimp only)
   go_upto_region 24 with (((refine rw_newrow rfl rfl rfl rfl rfl HI181.out rfl (by simp [Value.oneCell']) ?_); intro x_new hx_ hbn_))
   revert x_new hx_ hbn_; intro w10 hx_ hbn_; have HXu : Aside0 (w10.heap[w9.heap.size]? = some (.cells #[.int .u16 ts, .int .u16 td, .int .u32 tq, .int .u32 ta, .int .u8 tf, .int .u16 tw, .int .u16 tc, .int .u16 tu, .slice Ato_ to_.length cto_, .slice Atb tb.length ctb] 181 (0, 0))) := ⟨hx_⟩
   have GHXu := bsz HB; have hb_ := hbn_; replace HB := mB HB hb_; replace HXi := mX HXi hb_; replace HXq := mX HXq hb_; replace HXn := mX HXn hb_; replace HRo := mR HRo hb_; replace HRb := mR HRb hb_; replace HXp := mX HXp hb_; replace HRto_ := mR HRto_ hb_; replace HRtb := mR HRtb hb_; replace HXf := mX HXf hb_; clear hb_; clear hx_ hbn_; generalize w9.heap.size = gu at HXu GHXu |-
   refine start_ (n := 17) (S := fun w' => w'.cell? ⟨gu, 0, none⟩ = some (.int .u16 ts) /\ w'.cell? ⟨gu, 1, none⟩ = some (.int .u16 td) /\ w'.cell? ⟨gu, 4, none⟩ = some (.int .u8 tf)) (ds := []) #[false, false, false, false, false, false, false, false, false, false, false, false, false, false, false, false, false] (by kernel_rfl) rfl rfl ⟨((blk_cell HXu.out 0).trans rfl), ((blk_cell HXu.out 1).trans rfl), ((blk_cell HXu.out 4).trans rfl)⟩ (fun hHeld => ?_); refine with_tabW look.R24.tab look.R24.bits (fun HT_ HW_ => ?_); have hb_ := below_drew1 (Below.refl w10.heap.size w10); replace HB := mB HB hb_; replace HXi := mX HXi hb_; replace HXq := mX HXq hb_; replace HXn := mX HXn hb_; replace HRo := mR HRo hb_; replace HRb := mR HRb hb_; replace HXp := mX HXp hb_; replace HRto_ := mR HRto_ hb_; replace HRtb := mR HRtb hb_; replace HXf := mX HXf hb_; replace HXu := mX HXu hb_; clear hb_
   generalize w10.drew = w11 at HB HXi HXq HXn HRo HRb HXp HRto_ HRtb HXf HXu hHeld |-
   refine pz 0 108 HT_ ?_; refine pz 1 109 HT_ ?_; refine pz 3 111 HT_ ?_; refine pz 4 112 HT_ ?_; refine pz 6 114 HT_ ?_; refine pz 7 115 HT_ ?_; refine tz 2 110 HT_ HW_ hHeld ?_; refine pz 9 117 HT_ ?_; refine pz 10 118 HT_ ?_; refine tz 5 113 HT_ HW_ hHeld ?_; refine tz 8 116 HT_ HW_ hHeld ?_; refine oz 11 (none) HT_ (fun K hK => ?_); refine skip_cell (i := 2) (v := .int .u16 ts) (cs' := #[.int .u8 6, .int .u32 s, .int .u16 ts, .int .u32 d, .int .u16 0, .int .u8 0, .slice none 0 0]) (by rfl) (by rfl) HXf.out rfl (by (have m_ := (blk_cell HXf.out 2).trans (rfl : _ = some (.int .u16 0 : Value))); (have mf_ := blk_frozen HXf.out 2); first | (go_simp; done) | (go_simp; rfl)) ?_; intro w12 hs_ off_; replace HXi := oX off_ HXi HXf (by decide); replace HXq := oN off_ HXq NE_HXq_HXf; replace HXn := oN off_ HXn NE_HXn_HXf; replace HRo := oR off_ HRo HXf (by decide)
   replace HRb := oR off_ HRb HXf (by decide); replace HXp := oX off_ HXp HXf (by decide); replace HRto_ := oR off_ HRto_ HXf (by decide); replace HRtb := oR off_ HRtb HXf (by decide); replace HXu := oX off_ HXu HXf (by decide); replace HB := oB off_ HB GHXf; clear off_; replace HXf := Aside0.mk hs_; clear hs_; refine hK.out _ _ ⟨((blk_cell HXu.out 0).trans rfl), ((blk_cell HXu.out 1).trans rfl), ((blk_cell HXu.out 4).trans rfl)⟩ (fun hHeld => ?_); clear hK K; refine pz 12 119 HT_ ?_; refine pz 13 120 HT_ ?_; refine oz 14 (none) HT_ (fun K hK => ?_)
   refine skip_cell (i := 4) (v := .int .u16 td) (cs' := #[.int .u8 6, .int .u32 s, .int .u16 ts, .int .u32 d, .int .u16 td, .int .u8 0, .slice none 0 0]) (by rfl) (by rfl) HXf.out rfl (by (have m_ := (blk_cell HXf.out 4).trans (rfl : _ = some (.int .u16 0 : Value))); (have mf_ := blk_frozen HXf.out 4); first | (go_simp; done) | (go_simp; rfl)) ?_; intro w13 hs_ off_; replace HXi := oX off_ HXi HXf (by decide); replace HXq := oN off_ HXq NE_HXq_HXf; replace HXn := oN off_ HXn NE_HXn_HXf; replace HRo := oR off_ HRo HXf (by decide); replace HRb := oR off_ HRb HXf (by decide); replace HXp := oX off_ HXp HXf (by decide); replace HRto_ := oR off_ HRto_ HXf (by decide); replace HRtb := oR off_ HRtb HXf (by decide); replace HXu := oX off_ HXu HXf (by decide); replace HB := oB off_ HB GHXf; clear off_; replace HXf := Aside0.mk hs_; clear hs_
   refine hK.out _ _ ⟨((blk_cell HXu.out 0).trans rfl), ((blk_cell HXu.out 1).trans rfl), ((blk_cell HXu.out 4).trans rfl)⟩ (fun hHeld => ?_); clear hK K; refine pz 15 121 HT_ ?_; refine oz 16 (none) HT_ (fun K hK => ?_); refine skip_cell (i := 5) (v := .int .u8 tf) (cs' := #[.int .u8 6, .int .u32 s, .int .u16 ts, .int .u32 d, .int .u16 td, .int .u8 tf, .slice none 0 0]) (by rfl) (by rfl) HXf.out rfl (by (have m_ := (blk_cell HXf.out 5).trans (rfl : _ = some (.int .u8 0 : Value))); (have mf_ := blk_frozen HXf.out 5); first | (go_simp; done) | (go_simp; rfl)) ?_; intro w14 hs_ off_; replace HXi := oX off_ HXi HXf (by decide); replace HXq := oN off_ HXq NE_HXq_HXf; replace HXn := oN off_ HXn NE_HXn_HXf; replace HRo := oR off_ HRo HXf (by decide); replace HRb := oR off_ HRb HXf (by decide); replace HXp := oX off_ HXp HXf (by decide); replace HRto_ := oR off_ HRto_ HXf (by decide)
   replace HRtb := oR off_ HRtb HXf (by decide); replace HXu := oX off_ HXu HXf (by decide); replace HB := oB off_ HB GHXf; clear off_; replace HXf := Aside0.mk hs_; clear hs_; refine hK.out _ _ ⟨((blk_cell HXu.out 0).trans rfl), ((blk_cell HXu.out 1).trans rfl), ((blk_cell HXu.out 4).trans rfl)⟩ (fun hHeld => ?_); clear hK K; refine dz HT_ ?_; clear HT_ HW_ hHeld; have H := HG.out; clear HG; obtain rfl := Option.some.inj H
   (try dsimp only)
   go_upto_region 25 with (fail)
   refine start_ (n := 7) (S := fun w' => w'.heap[gp]? = some (.cells #[.int .u8 a, .int .u8 t, .int .u8 6, .int .u16 i, .int .u8 fl, .int .u16 of_, .int .u32 s, .int .u32 d, .slice Ao o.length co, .slice Ab b.length cb] 73 (0, 0)) /\ w'.heap[gf]? = some (.cells #[.int .u8 6, .int .u32 s, .int .u16 ts, .int .u32 d, .int .u16 td, .int .u8 tf, .slice none 0 0] 76 (0, 0))) (ds := []) #[false, false, false, false, false, false, false] (by kernel_rfl) rfl rfl ⟨HXp.out, HXf.out⟩ (fun hHeld => ?_); refine with_tabW look.R25.tab look.R25.bits (fun HT_ HW_ => ?_); have hb_ := below_drew1 (Below.refl w14.heap.size w14); replace HB := mB HB hb_; replace HXi := mX HXi hb_; replace HXq := mX HXq hb_; replace HXn := mX HXn hb_; replace HRo := mR HRo hb_; replace HRb := mR HRb hb_; replace HXp := mX HXp hb_; replace HRto_ := mR HRto_ hb_; replace HRtb := mR HRtb hb_; replace HXf := mX HXf hb_
   replace HXu := mX HXu hb_; clear hb_; generalize w14.drew = w15 at HB HXi HXq HXn HRo HRb HXp HRto_ HRtb HXf HXu hHeld |-
   refine pz 1 123 HT_ ?_; refine tv 0 122 (.agg #[.int .u8 a, .int .u8 t, .int .u8 6, .int .u16 i, .int .u8 fl, .int .u16 of_, .int .u32 s, .int .u32 d, .slice Ao o.length co, .slice Ab b.length cb]) HT_ HW_ hHeld ?_ ?_
   ·intro w' s0
    obtain ⟨s0, s1⟩ := s0; exact rw_load (p := .tmp 7) (ty := 73) (by rfl) (by rfl) s0 hu73 (by rfl) HI73.out
   refine nz 122 ?_; refine tv 2 124 (.agg #[.int .u8 6, .int .u32 s, .int .u16 ts, .int .u32 d, .int .u16 td, .int .u8 tf, .slice none 0 0]) HT_ HW_ hHeld ?_ ?_
   ·intro w' s0
    obtain ⟨s0, s1⟩ := s0; exact rw_load (p := .tmp 10) (ty := 76) (by rfl) (by rfl) s1 hu76 (by rfl) HI76.out
   refine nz 124 ?_; refine oz 3 (none) HT_ (fun K hK => ?_); refine skip_row (by rfl) (by rfl) rfl rfl rfl HXi.out HI73.out rfl (by simp [Value.oneCell']) ?_; intro w16 hs_ off_; replace HXq := oX off_ HXq HXi (by decide); replace HXn := oX off_ HXn HXi (by decide); replace HRo := oR off_ HRo HXi (by decide); replace HRb := oR off_ HRb HXi (by decide); replace HXp := oN off_ HXp (ne_sym NE_HXi_HXp); replace HRto_ := oR off_ HRto_ HXi (by decide); replace HRtb := oR off_ HRtb HXi (by decide); replace HXf := oX off_ HXf HXi (by decide); replace HXu := oX off_ HXu HXi (by decide); replace HB := oB off_ HB GHXi; clear off_; replace HXi := Aside0.mk hs_; clear hs_; refine hK.out _ _ ⟨HXp.out, HXf.out⟩ (fun hHeld => ?_); clear hK K; refine pz 4 3 HT_ ?_; refine oz 5 (none) HT_ (fun K hK => ?_); refine skip_row (by rfl) (by rfl) rfl rfl rfl HXq.out HI76.out rfl (by simp [Value.oneCell']) ?_
   intro w17 hs_ off_; replace HXi := oX off_ HXi HXq (by decide); replace HXn := oN off_ HXn (ne_sym NE_HXq_HXn); replace HRo := oR off_ HRo HXq (by decide); replace HRb := oR off_ HRb HXq (by decide); replace HXp := oX off_ HXp HXq (by decide); replace HRto_ := oR off_ HRto_ HXq (by decide); replace HRtb := oR off_ HRtb HXq (by decide); replace HXf := oN off_ HXf (ne_sym NE_HXq_HXf); replace HXu := oX off_ HXu HXq (by decide); replace HB := oB off_ HB GHXq; clear off_; replace HXq := Aside0.mk hs_; clear hs_; refine hK.out _ _ ⟨HXp.out, HXf.out⟩ (fun hHeld => ?_); clear hK K; refine pz 6 5 HT_ ?_; refine dz HT_ ?_; clear HT_ HW_ hHeld
   (try dsimp only)
   go_wp2
   (try simp only [Exit.inBlock, Exit.then])
   refine bodyPost_ret (results_ctct rfl _ _ gi gq 73 76 #[.int .u8 a, .int .u8 t, .int .u8 6, .int .u16 i, .int .u8 fl, .int .u16 of_, .int .u32 s, .int .u32 d, .slice Ao o.length co, .slice Ab b.length cb] #[.int .u8 6, .int .u32 s, .int .u16 ts, .int .u32 d, .int .u16 td, .int .u8 tf, .slice none 0 0] (0, 0) (0, 0) _ _ rfl HXi.out hu73 rfl HI73.out rfl HXq.out hu76 rfl HI76.out) rfl ?_; exact ⟨_, _, _, _, rfl, HRo.out, HRb.out, ⟨_, _, rfl, HRto_.out, HRtb.out⟩, Kd.R_nil _ _ _ _ _, HB.out⟩
 ·have ce1 : (e2 == 0) = false := beq_eq_false_iff_ne.2 ce
  have ce2 : (e2 != 0) = true := bne_iff_ne.2 ce; rw [if_neg ce] at H
  clear ce; obtain rfl := Option.some.inj H
  (try dsimp only)
  go_upto_region 7 with (fail)
  refine start_ (n := 7) (S := fun w' => w'.heap[gn]? = some (.cells #[.int .u8 0, .int .u32 0, .int .u16 0, .int .u32 0, .int .u16 0, .int .u8 0, .slice none 0 0] 76 (0, 0))) (ds := []) #[false, false, false, false, false, false, false] (by kernel_rfl) rfl rfl HXn.out (fun hHeld => ?_); refine with_tabW look.R7.tab look.R7.bits (fun HT_ HW_ => ?_); have hb_ := below_drew1 (Below.refl w6.heap.size w6); replace HB := mB HB hb_; replace HXi := mX HXi hb_; replace HXq := mX HXq hb_; replace HXn := mX HXn hb_; replace HRo := mR HRo hb_; replace HRb := mR HRb hb_; replace HXp := mX HXp hb_; replace HRto_ := mR HRto_ hb_; replace HRtb := mR HRtb hb_; clear hb_; generalize w6.drew = w7 at HB HXi HXq HXn HRo HRb HXp HRto_ HRtb hHeld |-
  refine pz 0 34 HT_ ?_; refine pz 2 36 HT_ ?_; refine tv 1 35 (.agg #[.int .u8 0, .int .u32 0, .int .u16 0, .int .u32 0, .int .u16 0, .int .u8 0, .slice none 0 0]) HT_ HW_ hHeld ?_ ?_
  ·intro w' s0
   exact rw_load (p := .tmp 6) (ty := 76) (by rfl) (by rfl) s0 hu76 (by rfl) HI76.out
  refine nz 35 ?_; refine oz 3 (none) HT_ (fun K hK => ?_); refine skip_row (by rfl) (by rfl) rfl rfl rfl HXi.out HI73.out rfl (by simp [Value.oneCell']) ?_; intro w8 hs_ off_; replace HXq := oX off_ HXq HXi (by decide); replace HXn := oX off_ HXn HXi (by decide); replace HRo := oR off_ HRo HXi (by decide); replace HRb := oR off_ HRb HXi (by decide); replace HXp := oN off_ HXp (ne_sym NE_HXi_HXp); replace HRto_ := oR off_ HRto_ HXi (by decide); replace HRtb := oR off_ HRtb HXi (by decide); replace HB := oB off_ HB GHXi; clear off_; replace HXi := Aside0.mk hs_; clear hs_; refine hK.out _ _ HXn.out (fun hHeld => ?_); clear hK K; refine pz 4 3 HT_ ?_; refine oz 5 (none) HT_ (fun K hK => ?_); refine skip_row (by rfl) (by rfl) rfl rfl rfl HXq.out HI76.out rfl (by simp [Value.oneCell']) ?_; intro w9 hs_ off_; replace HXi := oX off_ HXi HXq (by decide)
  replace HXn := oN off_ HXn (ne_sym NE_HXq_HXn); replace HRo := oR off_ HRo HXq (by decide); replace HRb := oR off_ HRb HXq (by decide); replace HXp := oX off_ HXp HXq (by decide); replace HRto_ := oR off_ HRto_ HXq (by decide); replace HRtb := oR off_ HRtb HXq (by decide); replace HB := oB off_ HB GHXq; clear off_; replace HXq := Aside0.mk hs_; clear hs_; refine hK.out _ _ HXn.out (fun hHeld => ?_); clear hK K; refine pz 6 5 HT_ ?_; refine dz HT_ ?_; clear HT_ HW_ hHeld
  (try dsimp only)
  go_wp2
  (try simp only [Exit.inBlock, Exit.then])
  refine bodyPost_ret (results_ctct rfl _ _ gi gq 73 76 #[.int .u8 0, .int .u8 0, .int .u8 0, .int .u16 0, .int .u8 0, .int .u16 0, .int .u32 0, .int .u32 0, .slice none 0 0, .slice none 0 0] #[.int .u8 0, .int .u32 0, .int .u16 0, .int .u32 0, .int .u16 0, .int .u8 0, .slice none 0 0] (0, 0) (0, 0) _ _ rfl HXi.out hu73 rfl HI73.out rfl HXq.out hu76 rfl HI76.out) rfl ?_; exact ⟨_, _, _, _, rfl, Kd.R_nil _ _ _ _ _, Kd.R_nil _ _ _ _ _, rfl, Kd.R_nil _ _ _ _ _, HB.out⟩
attribute [local go_sem] inR179
attribute [local go_sem] inP179
attribute [local go_sem] inR181
attribute [local go_sem] inP181
attribute [local go_sem] inR183
attribute [local go_sem] inP183
attribute [local go_sem] inT179
attribute [local go_sem] inT181
attribute [local go_sem] inT183
attribute [local go_sem] inF179
attribute [local go_sem] inF181
attribute [local go_sem] inF183
theorem rewrite_look.calls (k : Nat) (A : Option Addr) (c : Nat) (l : List Int) (r : LK) (w : World) (hC : Kd.C (Kd.int .u8) w A l.length l) (hL : l.length <= c) (h : rewrite_look.f k l = some r) :
  Calls Try.prog 69 #[.slice A l.length c] w fun e w' => r.Post w.heap.size w e w' := by
 unfold rewrite_look.f at h
 obtain ⟨⟨a, t, pr, i, fl, of_, s, d, o, b, e_⟩, hp, h⟩ := rw_bind h; dsimp only at h
 by_cases he : e_ = 0
 ·rw [if_pos he] at h
  subst he
  by_cases h17 : pr = 17
  ·rw [if_pos h17] at h
   subst h17; exact look.lk_udp k A c l a t i fl of_ s d o b r w hC hL hp h
  ·rw [if_neg h17] at h
   by_cases h6 : pr = 6
   ·rw [if_pos h6] at h
    subst h6; exact look.lk_tcp k A c l a t i fl of_ s d o b r w hC hL hp h
   ·rw [if_neg h6] at h
    by_cases h1 : pr = 1
    ·rw [if_pos h1] at h
     subst h1; exact look.lk_icmp k A c l a t i fl of_ s d o b r w hC hL hp h
    ·rw [if_neg h1] at h
     obtain rfl := Option.some.inj h; exact look.lk_other k A c l a t pr i fl of_ s d o b w hC hL hp h17 h6 h1
 ·rw [if_neg he] at h
  obtain rfl := Option.some.inj h; exact look.lk_bad k A c l a t pr i fl of_ s d o b e_ w hC hL hp he
attribute [local go_sem] inR179
attribute [local go_sem] inP179
attribute [local go_sem] inR181
attribute [local go_sem] inP181
attribute [local go_sem] inR183
attribute [local go_sem] inP183
attribute [local go_sem] inT179
attribute [local go_sem] inT181
attribute [local go_sem] inT183
attribute [local go_sem] inF179
attribute [local go_sem] inF181
attribute [local go_sem] inF183
theorem rewrite_Look.calls (k : Nat) (A : Option Addr) (c : Nat) (l : List Int) (r : LK) (w : World) (hC : Kd.C (Kd.int .u8) w A l.length l) (hL : l.length <= c) (h : rewrite_look.f k l = some r) :
  Calls Try.prog 36 #[.slice A l.length c] w fun e w' => r.Told w.heap.size w e w' :=
 rewrite_Look.via A c l r w hC hL (fun w2 h2 => rewrite_look.calls k A c l r w2 h2 hL h)
attribute [local go_sem] inR179
attribute [local go_sem] inP179
attribute [local go_sem] inR181
attribute [local go_sem] inP181
attribute [local go_sem] inR183
attribute [local go_sem] inP183
attribute [local go_sem] inT179
attribute [local go_sem] inT181
attribute [local go_sem] inT183
attribute [local go_sem] inF179
attribute [local go_sem] inF181
attribute [local go_sem] inF183
theorem pointed.pt_udp (k : Nat) (si sp di dp : Int) (us ud uc : Int) (ub : List Int) (vub : Value) (r : List Int) (w : World) {base : Nat} (hub : Kd.R (Kd.int .u8) 5 w base (fun _ => True) vub ub) (H : pointed.f k si sp di dp (.udp us ud uc ub) = some r) :
  Calls Try.prog 70 #[.iface 179 (.agg #[.int .u16 us, .int .u16 ud, .int .u16 uc, vub]), .agg #[.int .u32 si, .int .u16 sp], .agg #[.int .u32 di, .int .u16 dp]] w fun e w' => ∃ vz : Value, e = .returned vz /\ Kd.R (Kd.int .u8) 5 w' w.heap.size (fun _ => True) vz r /\ Below w.heap.size w w' := by
 have hu65 := Try.underlying65; have hu83 := Try.underlying83; have hu137 := Try.underlying137; have hu101 := Try.underlying101; have hu179 := Try.underlying179; have hu181 := Try.underlying181; have hu183 := Try.underlying183; unfold pointed.f at H
 have HB := Aside0.mk (Below.refl w.heap.size w); have HI65 : Aside0 ((Try.prog.info? 65).map (·.size) = some 2) := ⟨by kernel_rfl⟩
 have HI83 : Aside0 ((Try.prog.info? 83).map (·.size) = some 4) := ⟨by kernel_rfl⟩
 have HI137 : Aside0 ((Try.prog.info? 137).map (·.size) = some 10) := ⟨by kernel_rfl⟩
 have HI101 : Aside0 ((Try.prog.info? 101).map (·.size) = some 5) := ⟨by kernel_rfl⟩
 have HI179 : Aside0 ((Try.prog.info? 179).map (·.size) = some 4) := ⟨by kernel_rfl⟩
 have HI181 : Aside0 ((Try.prog.info? 181).map (·.size) = some 10) := ⟨by kernel_rfl⟩
 have HI183 : Aside0 ((Try.prog.info? 183).map (·.size) = some 5) := ⟨by kernel_rfl⟩
 obtain ⟨Aub, cub, rfl, _, _⟩ := Kd.R_reads hub; have HRub := Aside0.mk hub; clear hub; have HG := Aside0.mk H; clear H
 go_enter Try.func70, Try.ntmps70
 go_upto_region 2 with (first | ((with_reducible refine gate_dst (N := 4) rfl ?_); refine box_event ?hg_ (N := 4) ?hd_ (cs := #[.int .u32 si, .int .u16 sp]) (t := 65) ?hr_ ?_; (case hd_ => rfl); (case hg_ => rfl); (case hr_ => first | (go_simp; done) | (go_simp; rfl)); intro gs hgg_ w1 hbox_ hbb_; have GHXs := Aside0.mk (show w.heap.size <= gs by rw [hgg_]; exact below_size HB.out); have HXs := Aside0.mk hbox_; have hb_ := hbb_; replace HB := mB HB hb_; replace HRub := mR HRub hb_; clear hb_; clear hgg_ hbox_ hbb_) | ((with_reducible refine gate_dst (N := 5) rfl ?_); refine box_event ?hg_ (N := 5) ?hd_ (cs := #[.int .u32 di, .int .u16 dp]) (t := 65) ?hr_ ?_; (case hd_ => rfl); (case hg_ => rfl); (case hr_ => first | (go_simp; done) | (go_simp; rfl)); intro gd hgg_ w2 hbox_ hbb_; have GHXd := Aside0.mk (show w.heap.size <= gd by rw [hgg_]; exact below_size HB.out); have HXd := Aside0.mk hbox_; have NE_HXs_HXd : Aside0 (gs ≠ gd) := ⟨by rw [hgg_]; exact (blk_less HXs).out⟩; have hb_ := hbb_; replace HB := mB HB hb_; replace HRub := mR HRub hb_; replace HXs := mX HXs hb_; clear hb_; clear hgg_ hbox_ hbb_))
 go_wp2_with fail
 refine (rewrite_datagram_proto.calls us ud uc Aub cub ub 17 _ (Kd.R_reads' HRub.out).2.2 (Kd.R_reads' HRub.out).2.1 rfl).mono ?_; rintro ev w3 ⟨rfl, hb⟩; have hb_ := hb; replace HB := mB HB hb_; replace HRub := mR HRub hb_; replace HXs := mX HXs hb_; replace HXd := mX HXd hb_; clear hb_; clear hb
 (try dsimp only)
 go_upto_region 10 with (((refine rw_newrow rfl rfl rfl rfl rfl HI83.out rfl (by simp [Value.oneCell']) ?_); intro x_new hx_ hbn_))
 revert x_new hx_ hbn_; intro w4 hx_ hbn_; have HXu : Aside0 (w4.heap[w3.heap.size]? = some (.cells #[.int .u16 us, .int .u16 ud, .int .u16 uc, .slice Aub ub.length cub] 83 (0, 0))) := ⟨hx_⟩
 have GHXu := bsz HB; have hb_ := hbn_; replace HB := mB HB hb_; replace HRub := mR HRub hb_; replace HXs := mX HXs hb_; replace HXd := mX HXd hb_; clear hb_; clear hx_ hbn_; generalize w3.heap.size = gu at HXu GHXu |-
 refine start_ (n := 8) (S := fun w' => w'.cell? ⟨gs, 1, none⟩ = some (.int .u16 sp) /\ w'.cell? ⟨gd, 1, none⟩ = some (.int .u16 dp)) (ds := []) #[false, false, false, false, false, false, false, false] (by kernel_rfl) rfl rfl ⟨((blk_cell HXs.out 1).trans rfl), ((blk_cell HXd.out 1).trans rfl)⟩ (fun hHeld => ?_); refine with_tabW pointed.R10.tab pointed.R10.bits (fun HT_ HW_ => ?_); have hb_ := below_drew1 (Below.refl w4.heap.size w4); replace HB := mB HB hb_; replace HRub := mR HRub hb_; replace HXs := mX HXs hb_; replace HXd := mX HXd hb_; replace HXu := mX HXu hb_; clear hb_; generalize w4.drew = w5 at HB HRub HXs HXd HXu hHeld |-
 refine pz 0 40 HT_ ?_; refine pz 2 42 HT_ ?_; refine tz 1 41 HT_ HW_ hHeld ?_; refine pz 4 44 HT_ ?_; refine tz 3 43 HT_ HW_ hHeld ?_; refine oz 5 (none) HT_ (fun K hK => ?_); refine skip_cell (i := 0) (v := .int .u16 sp) (cs' := #[.int .u16 sp, .int .u16 ud, .int .u16 uc, .slice Aub ub.length cub]) (by rfl) (by rfl) HXu.out rfl (by (have m_ := (blk_cell HXu.out 0).trans (rfl : _ = some (.int .u16 us : Value))); (have mf_ := blk_frozen HXu.out 0); first | (go_simp; done) | (go_simp; rfl)) ?_; intro w6 hs_ off_; replace HRub := oR off_ HRub HXu (by decide); replace HXs := oX off_ HXs HXu (by decide); replace HXd := oX off_ HXd HXu (by decide); replace HB := oB off_ HB GHXu; clear off_; replace HXu := Aside0.mk hs_; clear hs_; refine hK.out _ _ ⟨((blk_cell HXs.out 1).trans rfl), ((blk_cell HXd.out 1).trans rfl)⟩ (fun hHeld => ?_); clear hK K; refine pz 6 45 HT_ ?_
 refine oz 7 (none) HT_ (fun K hK => ?_); refine skip_cell (i := 1) (v := .int .u16 dp) (cs' := #[.int .u16 sp, .int .u16 dp, .int .u16 uc, .slice Aub ub.length cub]) (by rfl) (by rfl) HXu.out rfl (by (have m_ := (blk_cell HXu.out 1).trans (rfl : _ = some (.int .u16 ud : Value))); (have mf_ := blk_frozen HXu.out 1); first | (go_simp; done) | (go_simp; rfl)) ?_; intro w7 hs_ off_; replace HRub := oR off_ HRub HXu (by decide); replace HXs := oX off_ HXs HXu (by decide); replace HXd := oX off_ HXd HXu (by decide); replace HB := oB off_ HB GHXu; clear off_; replace HXu := Aside0.mk hs_; clear hs_; refine hK.out _ _ ⟨((blk_cell HXs.out 1).trans rfl), ((blk_cell HXd.out 1).trans rfl)⟩ (fun hHeld => ?_); clear hK K; refine dz HT_ ?_; clear HT_ HW_ hHeld
 (try dsimp only)
 have gu_2 := cz HXu.out 2 rfl; have H := HG.out; clear HG
 by_cases cu : uc = 0
 ·have cu1 : (uc == 0) = true := beq_iff_eq.2 cu
  have cu2 : (uc != 0) = false := by rw [bne, cu1]; rfl
  rw [if_pos cu] at H
  clear cu; obtain ⟨⟨rz, re⟩, hz, H⟩ := rw_bind H; obtain rfl := Option.some.inj H
  (try dsimp only)
  go_wp2_with (refine Kd.event_run rfl (rw_load rfl rfl HXu.out Try.underlying83 rfl HI83.out) ?_)
  refine (udp_Bytes.calls sp dp uc Aub cub ub rz re _ (Kd.R_reads' HRub.out).2.2 (Kd.R_reads' HRub.out).2.1 hz).mono ?_; rintro ev w8 ⟨vz, rfl, ho, hb⟩; clear hz; have HRz := rLow ho HB; clear ho; have hb_ := hb; replace HB := mB HB hb_; replace HRub := mR HRub hb_; replace HXs := mX HXs hb_; replace HXd := mX HXd hb_; replace HXu := mX HXu hb_; clear hb_; clear hb
  (try dsimp only)
  go_wp2
  (try simp only [Exit.inBlock, Exit.then])
  go_ret
  exact ⟨_, rfl, HRz.out, HB.out⟩
 ·have cu1 : (uc == 0) = false := beq_eq_false_iff_ne.2 cu
  have cu2 : (uc != 0) = true := bne_iff_ne.2 cu; rw [if_neg cu] at H
  clear cu; obtain ⟨s, hs, H⟩ := rw_bind H; have HG := Aside0.mk H; clear H; have gs_0 := cz HXs.out 0 rfl; have gd_0 := cz HXd.out 0 rfl
  (try dsimp only)
  go_wp2_with (refine Kd.event_run rfl (rw_load rfl rfl HXu.out Try.underlying83 rfl HI83.out) ?_)
  clear gu_2 gs_0 gd_0; refine (udp_Sum.calls k si di sp dp uc Aub cub ub s _ (Kd.R_reads' HRub.out).2.2 (Kd.R_reads' HRub.out).2.1 hs).mono ?_; rintro ev w8 ⟨rfl, hb⟩; clear hs; have hb_ := hb; replace HB := mB HB hb_; replace HRub := mR HRub hb_; replace HXs := mX HXs hb_; replace HXd := mX HXd hb_; replace HXu := mX HXu hb_; clear hb_; clear hb
  (try dsimp only)
  go_upto_region 13 with (((refine rw_set rfl rfl (i := 2) (v := .int .u16 s) (cs' := #[.int .u16 sp, .int .u16 dp, .int .u16 s, .slice Aub ub.length cub]) HXu.out rfl ?hr_ ?_); (case hr_ => (have m_ := (blk_cell HXu.out 2).trans (rfl : _ = some (.int .u16 uc : Value))); (have mf_ := blk_frozen HXu.out 2); first | (go_simp; done) | (go_simp; rfl)); intro w9 hs_ off_; replace HRub := oR off_ HRub HXu (by decide); replace HXs := oX off_ HXs HXu (by decide); replace HXd := oX off_ HXd HXu (by decide); replace HB := oB off_ HB GHXu; clear off_; replace HXu := Aside0.mk hs_; clear hs_))
  have H := HG.out; clear HG; obtain ⟨⟨rz, re⟩, hz, H⟩ := rw_bind H; obtain rfl := Option.some.inj H
  (try dsimp only)
  go_wp2_with (refine Kd.event_run rfl (rw_load rfl rfl HXu.out Try.underlying83 rfl HI83.out) ?_)
  refine (udp_Bytes.calls sp dp s Aub cub ub rz re _ (Kd.R_reads' HRub.out).2.2 (Kd.R_reads' HRub.out).2.1 hz).mono ?_; rintro ev w10 ⟨vz, rfl, ho, hb⟩; clear hz; have HRz := rLow ho HB; clear ho; have hb_ := hb; replace HB := mB HB hb_; replace HRub := mR HRub hb_; replace HXs := mX HXs hb_; replace HXd := mX HXd hb_; replace HXu := mX HXu hb_; clear hb_; clear hb
  (try dsimp only)
  go_wp2
  (try simp only [Exit.inBlock, Exit.then])
  go_ret
  exact ⟨_, rfl, HRz.out, HB.out⟩
attribute [local go_sem] inR179
attribute [local go_sem] inP179
attribute [local go_sem] inR181
attribute [local go_sem] inP181
attribute [local go_sem] inR183
attribute [local go_sem] inP183
attribute [local go_sem] inT179
attribute [local go_sem] inT181
attribute [local go_sem] inT183
attribute [local go_sem] inF179
attribute [local go_sem] inF181
attribute [local go_sem] inF183
theorem pointed.pt_tcp (k : Nat) (si sp di dp : Int) (ts td tq ta tf tw tc tu : Int) (to_ tb : List Int) (vto_ vtb : Value) (r : List Int) (w : World) {base : Nat} (hto_ : Kd.R (Kd.int .u8) 5 w base (fun _ => True) vto_ to_) (htb : Kd.R (Kd.int .u8) 5 w base (fun _ => True) vtb tb) (H : pointed.f k si sp di dp (.tcp ts td tq ta tf tw tc tu to_ tb) = some r) :
  Calls Try.prog 70 #[.iface 181 (.agg #[.int .u16 ts, .int .u16 td, .int .u32 tq, .int .u32 ta, .int .u8 tf, .int .u16 tw, .int .u16 tc, .int .u16 tu, vto_, vtb]), .agg #[.int .u32 si, .int .u16 sp], .agg #[.int .u32 di, .int .u16 dp]] w fun e w' => ∃ vz : Value, e = .returned vz /\ Kd.R (Kd.int .u8) 5 w' w.heap.size (fun _ => True) vz r /\ Below w.heap.size w w' := by
 have hu65 := Try.underlying65; have hu83 := Try.underlying83; have hu137 := Try.underlying137; have hu101 := Try.underlying101; have hu179 := Try.underlying179; have hu181 := Try.underlying181; have hu183 := Try.underlying183; unfold pointed.f at H
 have HB := Aside0.mk (Below.refl w.heap.size w); have HI65 : Aside0 ((Try.prog.info? 65).map (·.size) = some 2) := ⟨by kernel_rfl⟩
 have HI83 : Aside0 ((Try.prog.info? 83).map (·.size) = some 4) := ⟨by kernel_rfl⟩
 have HI137 : Aside0 ((Try.prog.info? 137).map (·.size) = some 10) := ⟨by kernel_rfl⟩
 have HI101 : Aside0 ((Try.prog.info? 101).map (·.size) = some 5) := ⟨by kernel_rfl⟩
 have HI179 : Aside0 ((Try.prog.info? 179).map (·.size) = some 4) := ⟨by kernel_rfl⟩
 have HI181 : Aside0 ((Try.prog.info? 181).map (·.size) = some 10) := ⟨by kernel_rfl⟩
 have HI183 : Aside0 ((Try.prog.info? 183).map (·.size) = some 5) := ⟨by kernel_rfl⟩
 obtain ⟨Ato_, cto_, rfl, _, _⟩ := Kd.R_reads hto_; obtain ⟨Atb, ctb, rfl, _, _⟩ := Kd.R_reads htb; have HRto_ := Aside0.mk hto_; have HRtb := Aside0.mk htb; clear hto_ htb; have HG := Aside0.mk H; clear H
 go_enter Try.func70, Try.ntmps70
 go_upto_region 2 with (first | ((with_reducible refine gate_dst (N := 4) rfl ?_); refine box_event ?hg_ (N := 4) ?hd_ (cs := #[.int .u32 si, .int .u16 sp]) (t := 65) ?hr_ ?_; (case hd_ => rfl); (case hg_ => rfl); (case hr_ => first | (go_simp; done) | (go_simp; rfl)); intro gs hgg_ w1 hbox_ hbb_; have GHXs := Aside0.mk (show w.heap.size <= gs by rw [hgg_]; exact below_size HB.out); have HXs := Aside0.mk hbox_; have hb_ := hbb_; replace HB := mB HB hb_; replace HRto_ := mR HRto_ hb_; replace HRtb := mR HRtb hb_; clear hb_; clear hgg_ hbox_ hbb_) | ((with_reducible refine gate_dst (N := 5) rfl ?_); refine box_event ?hg_ (N := 5) ?hd_ (cs := #[.int .u32 di, .int .u16 dp]) (t := 65) ?hr_ ?_; (case hd_ => rfl); (case hg_ => rfl); (case hr_ => first | (go_simp; done) | (go_simp; rfl)); intro gd hgg_ w2 hbox_ hbb_; have GHXd := Aside0.mk (show w.heap.size <= gd by rw [hgg_]; exact below_size HB.out); have HXd := Aside0.mk hbox_; have NE_HXs_HXd : Aside0 (gs ≠ gd) := ⟨by rw [hgg_]; exact (blk_less HXs).out⟩; have hb_ := hbb_; replace HB := mB HB hb_; replace HRto_ := mR HRto_ hb_; replace HRtb := mR HRtb hb_; replace HXs := mX HXs hb_; clear hb_; clear hgg_ hbox_ hbb_))
 go_wp2_with fail
 refine (rewrite_segment_proto.calls ts td tq ta tf tw tc tu Ato_ cto_ to_ Atb ctb tb 6 _ (Kd.R_reads' HRto_.out).2.2 (Kd.R_reads' HRto_.out).2.1 (Kd.R_reads' HRtb.out).2.2 (Kd.R_reads' HRtb.out).2.1 rfl).mono ?_; rintro ev w3 ⟨rfl, hb⟩; have hb_ := hb; replace HB := mB HB hb_; replace HRto_ := mR HRto_ hb_; replace HRtb := mR HRtb hb_; replace HXs := mX HXs hb_; replace HXd := mX HXd hb_; clear hb_; clear hb
 (try dsimp only)
 go_upto_region 16 with (((refine rw_newrow rfl rfl rfl rfl rfl HI137.out rfl (by simp [Value.oneCell']) ?_); intro x_new hx_ hbn_))
 revert x_new hx_ hbn_; intro w4 hx_ hbn_; have HXu : Aside0 (w4.heap[w3.heap.size]? = some (.cells #[.int .u16 ts, .int .u16 td, .int .u32 tq, .int .u32 ta, .int .u8 tf, .int .u16 tw, .int .u16 tc, .int .u16 tu, .slice Ato_ to_.length cto_, .slice Atb tb.length ctb] 137 (0, 0))) := ⟨hx_⟩
 have GHXu := bsz HB; have hb_ := hbn_; replace HB := mB HB hb_; replace HRto_ := mR HRto_ hb_; replace HRtb := mR HRtb hb_; replace HXs := mX HXs hb_; replace HXd := mX HXd hb_; clear hb_; clear hx_ hbn_; generalize w3.heap.size = gu at HXu GHXu |-
 refine start_ (n := 8) (S := fun w' => w'.cell? ⟨gs, 1, none⟩ = some (.int .u16 sp) /\ w'.cell? ⟨gd, 1, none⟩ = some (.int .u16 dp)) (ds := []) #[false, false, false, false, false, false, false, false] (by kernel_rfl) rfl rfl ⟨((blk_cell HXs.out 1).trans rfl), ((blk_cell HXd.out 1).trans rfl)⟩ (fun hHeld => ?_); refine with_tabW pointed.R16.tab pointed.R16.bits (fun HT_ HW_ => ?_); have hb_ := below_drew1 (Below.refl w4.heap.size w4); replace HB := mB HB hb_; replace HRto_ := mR HRto_ hb_; replace HRtb := mR HRtb hb_; replace HXs := mX HXs hb_; replace HXd := mX HXd hb_; replace HXu := mX HXu hb_; clear hb_; generalize w4.drew = w5 at HB HRto_ HRtb HXs HXd HXu hHeld |-
 refine pz 0 66 HT_ ?_; refine pz 2 68 HT_ ?_; refine tz 1 67 HT_ HW_ hHeld ?_; refine pz 4 70 HT_ ?_; refine tz 3 69 HT_ HW_ hHeld ?_; refine oz 5 (none) HT_ (fun K hK => ?_); refine skip_cell (i := 0) (v := .int .u16 sp) (cs' := #[.int .u16 sp, .int .u16 td, .int .u32 tq, .int .u32 ta, .int .u8 tf, .int .u16 tw, .int .u16 tc, .int .u16 tu, .slice Ato_ to_.length cto_, .slice Atb tb.length ctb]) (by rfl) (by rfl) HXu.out rfl (by (have m_ := (blk_cell HXu.out 0).trans (rfl : _ = some (.int .u16 ts : Value))); (have mf_ := blk_frozen HXu.out 0); first | (go_simp; done) | (go_simp; rfl)) ?_; intro w6 hs_ off_; replace HRto_ := oR off_ HRto_ HXu (by decide); replace HRtb := oR off_ HRtb HXu (by decide); replace HXs := oX off_ HXs HXu (by decide); replace HXd := oX off_ HXd HXu (by decide); replace HB := oB off_ HB GHXu; clear off_; replace HXu := Aside0.mk hs_; clear hs_
 refine hK.out _ _ ⟨((blk_cell HXs.out 1).trans rfl), ((blk_cell HXd.out 1).trans rfl)⟩ (fun hHeld => ?_); clear hK K; refine pz 6 71 HT_ ?_; refine oz 7 (none) HT_ (fun K hK => ?_); refine skip_cell (i := 1) (v := .int .u16 dp) (cs' := #[.int .u16 sp, .int .u16 dp, .int .u32 tq, .int .u32 ta, .int .u8 tf, .int .u16 tw, .int .u16 tc, .int .u16 tu, .slice Ato_ to_.length cto_, .slice Atb tb.length ctb]) (by rfl) (by rfl) HXu.out rfl (by (have m_ := (blk_cell HXu.out 1).trans (rfl : _ = some (.int .u16 td : Value))); (have mf_ := blk_frozen HXu.out 1); first | (go_simp; done) | (go_simp; rfl)) ?_; intro w7 hs_ off_; replace HRto_ := oR off_ HRto_ HXu (by decide); replace HRtb := oR off_ HRtb HXu (by decide); replace HXs := oX off_ HXs HXu (by decide); replace HXd := oX off_ HXd HXu (by decide); replace HB := oB off_ HB GHXu; clear off_; replace HXu := Aside0.mk hs_; clear hs_
 refine hK.out _ _ ⟨((blk_cell HXs.out 1).trans rfl), ((blk_cell HXd.out 1).trans rfl)⟩ (fun hHeld => ?_); clear hK K; refine dz HT_ ?_; clear HT_ HW_ hHeld
 (try dsimp only)
 have H := HG.out; clear HG; obtain ⟨s, hs, H⟩ := rw_bind H; have HG := Aside0.mk H; clear H; have gs_0 := cz HXs.out 0 rfl; have gd_0 := cz HXd.out 0 rfl
 go_wp2_with (refine Kd.event_run rfl (rw_load rfl rfl HXu.out Try.underlying137 rfl HI137.out) ?_)
 clear gs_0 gd_0; refine (tcp_Sum.calls k si di sp dp tq ta tf tw tc tu Ato_ cto_ to_ Atb ctb tb s _ (Kd.R_reads' HRto_.out).2.2 (Kd.R_reads' HRto_.out).2.1 (Kd.R_reads' HRtb.out).2.2 (Kd.R_reads' HRtb.out).2.1 hs).mono ?_; rintro ev w8 ⟨rfl, hb⟩; clear hs; have hb_ := hb; replace HB := mB HB hb_; replace HRto_ := mR HRto_ hb_; replace HRtb := mR HRtb hb_; replace HXs := mX HXs hb_; replace HXd := mX HXd hb_; replace HXu := mX HXu hb_; clear hb_; clear hb
 (try dsimp only)
 go_upto_region 18 with (((refine rw_set rfl rfl (i := 6) (v := .int .u16 s) (cs' := #[.int .u16 sp, .int .u16 dp, .int .u32 tq, .int .u32 ta, .int .u8 tf, .int .u16 tw, .int .u16 s, .int .u16 tu, .slice Ato_ to_.length cto_, .slice Atb tb.length ctb]) HXu.out rfl ?hr_ ?_); (case hr_ => (have m_ := (blk_cell HXu.out 6).trans (rfl : _ = some (.int .u16 tc : Value))); (have mf_ := blk_frozen HXu.out 6); first | (go_simp; done) | (go_simp; rfl)); intro w9 hs_ off_; replace HRto_ := oR off_ HRto_ HXu (by decide); replace HRtb := oR off_ HRtb HXu (by decide); replace HXs := oX off_ HXs HXu (by decide); replace HXd := oX off_ HXd HXu (by decide); replace HB := oB off_ HB GHXu; clear off_; replace HXu := Aside0.mk hs_; clear hs_))
 have H := HG.out; clear HG; obtain ⟨⟨rz, re⟩, hz, H⟩ := rw_bind H; obtain rfl := Option.some.inj H
 (try dsimp only)
 go_wp2_with (refine Kd.event_run rfl (rw_load rfl rfl HXu.out Try.underlying137 rfl HI137.out) ?_)
 refine (tcp_Bytes.calls k sp dp tq ta tf tw s tu (fun _ => True) Ato_ cto_ to_ (fun _ => True) Atb ctb tb rz re _ (Kd.V_mk (Kd.R_reads' HRto_.out).2.1 (Kd.R_F HRto_.out)) (Kd.V_mk (Kd.R_reads' HRtb.out).2.1 (Kd.R_F HRtb.out)) hz).mono ?_; rintro ev w10 ⟨vz, rfl, ho, hb⟩; clear hz; have HRz := rLow ho HB; clear ho; have hb_ := hb; replace HB := mB HB hb_; replace HRto_ := mR HRto_ hb_; replace HRtb := mR HRtb hb_; replace HXs := mX HXs hb_; replace HXd := mX HXd hb_; replace HXu := mX HXu hb_; clear hb_; clear hb
 (try dsimp only)
 go_wp2
 (try simp only [Exit.inBlock, Exit.then])
 go_ret
 exact ⟨_, rfl, HRz.out, HB.out⟩
attribute [local go_sem] inR179
attribute [local go_sem] inP179
attribute [local go_sem] inR181
attribute [local go_sem] inP181
attribute [local go_sem] inR183
attribute [local go_sem] inP183
attribute [local go_sem] inT179
attribute [local go_sem] inT181
attribute [local go_sem] inT183
attribute [local go_sem] inF179
attribute [local go_sem] inF181
attribute [local go_sem] inF183
theorem pointed.calls (k : Nat) (si sp di dp : Int) (x : RB) (vx : Value) (base : Nat) (r : List Int) (w : World) (hx : x.V w base vx) (H : pointed.f k si sp di dp x = some r) :
  Calls Try.prog 70 #[vx, .agg #[.int .u32 si, .int .u16 sp], .agg #[.int .u32 di, .int .u16 dp]] w fun e w' => ∃ vz : Value, e = .returned vz /\ Kd.R (Kd.int .u8) 5 w' w.heap.size (fun _ => True) vz r /\ Below w.heap.size w w' := by
 cases x with
 | no => cases H
 | udp us ud uc ub => obtain ⟨v3, rfl, h3⟩ := hx; exact pointed.pt_udp k si sp di dp us ud uc ub v3 r w h3 H
 | tcp ts td tq ta tf tw tc tu to_ tb => obtain ⟨v8, v9, rfl, h8, h9⟩ := hx; exact pointed.pt_tcp k si sp di dp ts td tq ta tf tw tc tu to_ tb v8 v9 r w h8 h9 H
 | icmp mt mc ms mr mb => obtain ⟨v4, rfl, h4⟩ := hx; exact pointed.pt_icmp k si sp di dp mt mc ms mr mb v4 r w h4 H
end Go.Proofs.Ytkmimamminddiaa.PB
