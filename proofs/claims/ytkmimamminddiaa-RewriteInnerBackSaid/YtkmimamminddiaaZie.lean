/- Texts of this claim, merged: PBx23, RwPkt, RwKn, PBx30, PBx32, PBx55, PBx34, Spec, SpecSum, BytesEq, BytesEqB, FT, SumEq, SumEqP, SumEqO, PBx1, PBx57, RwTs, PBx29, PBx31, FU, FU2, FI, PBx41, FR, FB, RwPp, PBx40, FE, PBx33, PBx4, PBx21, FV, RwSg, RwIpOk, RwCgT, RwIn, RwCgI, RwCgU, RwMd, RwBk, RwMd2, RwRHop, RwHp, RwInP. -/
import Derived.Test.YtkmimamminddiaaZib
import Derived.Test.YtkmimamminddiaaZid
import Derived.Deep.Cut
import Derived.Deep.CutRange
import Derived.Deep.CutBlock
import Derived.Deep.WholeRow
import Derived.BigQuiet
import Derived.Deep.QuietTactic
import Derived.Test.YtkmimamminddiaaZic
import Derived.Laws.BitsAllLaws
import Derived.Laws.BitsLemmas
import Derived.RowKit
set_option maxHeartbeats 40000000
set_option maxRecDepth 100000
set_option linter.unusedVariables false
set_option linter.unusedSimpArgs false
namespace Go.Proofs.Ytkmimamminddiaa.PB
open Go.RowKit Go.Proofs.YtkmimamminddiaaW.PrintWords Go.Proofs.YtkmimamminddiaaW.PrintLast Go.Proofs.YtkmimamminddiaaW.PrintMore
attribute [local go_sem] max2_int min2_int max_two min_two max_three min_three max_four min_four
def lychref1_IpBytes.j0 : Nat -> Bool -> Int -> Int -> Int -> Int -> Int -> Int -> Int -> Int -> List Int -> List Int -> Option (List Int × Int)
 | 0, _, _, _, _, _, _, _, _, _, _, _ => none
 | k + 1, x27, x309000, x309001, x309002, x309003, x309004, x309005, x309006, x309007, x309008, x309009 => if x27 = true then (some (([] : List Int), 21)) else (if (x309009.length : Int) > (wrap64 (65535 - (wrap64 (20 + (x309008.length : Int))))) then (some (([] : List Int), 23)) else ((lychref1_Put16.f (([Go.bits .or .u8 64 ((wrap64 (Int.tdiv (wrap64 (20 + (x309008.length : Int))) 4)) % 256), x309000] : List Int)) (IntKind.u16.wrap (wrap64 ((wrap64 (20 + (x309008.length : Int))) + (x309009.length : Int))))).bind fun t312 => ((lychref1_Put16.f t312 x309003).bind fun t315 => ((lychref1_Put16.f t315 (Go.bits .or .u16 (IntKind.u16.wrap ((IntKind.u16.wrap (x309004)) * 8192)) x309005)).bind fun t318 => ((some (([x309001, x309002, 0, 0] : List Int) : List Int)).bind fun y321 => (if t318.length + y321.length < 140737488355328 then ((lychref1_Put32.f (t318 ++ y321) x309006).bind fun t327 => ((lychref1_Put32.f t327 x309007).bind fun t330 => (if t330.length + x309008.length < 140737488355328 then ((some (t330 ++ x309008 : List Int)).bind fun y333 => ((lychref1_Of.f k y333).bind fun t336 => (if 10 < (y333.length : Int) then (if 11 < (y333.length : Int) then ((some ((y333.set (10 : Int).toNat ((t336 / 256) % 256)).set (11 : Int).toNat ((t336) % 256) : List Int)).bind fun y338 => (if y338.length + x309009.length < 140737488355328 then (some ((y338 ++ x309009), 0)) else (none))) else (none)) else (none)))) else (none)))) else (none)))))))
def lychref1_IpBytes.f (k : Nat) (a0_0 : Int) (a0_1 : Int) (a0_2 : Int) (a0_3 : Int) (a0_4 : Int) (a0_5 : Int) (a0_6 : Int) (a0_7 : Int) (l0_8 : List Int) (l0_9 : List Int) : Option (List Int × Int) := if ((l0_8.length : Int) % 4) = 0 then (if (l0_8.length : Int) > 40 then (lychref1_IpBytes.j0 k true a0_0 a0_1 a0_2 a0_3 a0_4 a0_5 a0_6 a0_7 l0_8 l0_9) else (if a0_4 > 7 then (lychref1_IpBytes.j0 k true a0_0 a0_1 a0_2 a0_3 a0_4 a0_5 a0_6 a0_7 l0_8 l0_9) else (lychref1_IpBytes.j0 k (decide (a0_5 > 8191)) a0_0 a0_1 a0_2 a0_3 a0_4 a0_5 a0_6 a0_7 l0_8 l0_9))) else (lychref1_IpBytes.j0 k true a0_0 a0_1 a0_2 a0_3 a0_4 a0_5 a0_6 a0_7 l0_8 l0_9)
def lychref1_IpBytes.T7 : Bool × List (List Nat × List Nat) := (true, [([], []), ([], []), ([], []), ([2], [2]), ([3], [3]), ([1, 4], [1, 4]), ([5], [5]), ([0, 6], [0, 6]), ([], []), ([8], [8]), ([7, 9, 7], [7, 9]), ([10, 10, 0, 1, 2, 3, 4, 5, 6, 7, 8, 9, 10], [0, 10])])
def lychref1_IpBytes.B7 : List Nat := [0, 0, 0, 4, 12, 30, 62, 127, 0, 256, 1023, 2047]
theorem lychref1_IpBytes.tab7 : rtab .any (opsOf Try.f41 7) = lychref1_IpBytes.T7 := by kernel_rfl
theorem lychref1_IpBytes.bits7 : waitsOk lychref1_IpBytes.T7.2 lychref1_IpBytes.B7 = true := by kernel_rfl
def lychref1_IpBytes.T8 : Bool × List (List Nat × List Nat) := (true, [([], []), ([], []), ([1], [1]), ([2], [2]), ([3], [3]), ([], []), ([5], [5]), ([4, 6], [4, 6]), ([0, 7], [0, 7]), ([], []), ([9], [9]), ([], []), ([11], [11]), ([10, 12], [10, 12]), ([8, 13, 8], [8, 13]), ([14, 14, 0, 1, 2, 3, 4, 5, 6, 7, 8, 9, 10, 11, 12, 13, 14], [0, 14])])
def lychref1_IpBytes.B8 : List Nat := [0, 0, 2, 6, 14, 0, 32, 126, 255, 0, 512, 0, 2048, 7680, 16383, 32767]
theorem lychref1_IpBytes.tab8 : rtab .any (opsOf Try.f41 8) = lychref1_IpBytes.T8 := by kernel_rfl
theorem lychref1_IpBytes.bits8 : waitsOk lychref1_IpBytes.T8.2 lychref1_IpBytes.B8 = true := by kernel_rfl
def lychref1_IpBytes.T9 : Bool × List (List Nat × List Nat) := (true, [([], []), ([], []), ([1], [1]), ([0, 2], [0, 2]), ([], []), ([4], [4]), ([3, 5, 3], [3, 5]), ([], []), ([7], [7]), ([6, 8, 6], [6, 8]), ([9, 9, 0, 1, 2, 3, 4, 5, 6, 7, 8, 9], [0, 9])])
def lychref1_IpBytes.B9 : List Nat := [0, 0, 2, 7, 0, 16, 63, 0, 128, 511, 1023]
theorem lychref1_IpBytes.tab9 : rtab .any (opsOf Try.f41 9) = lychref1_IpBytes.T9 := by kernel_rfl
theorem lychref1_IpBytes.bits9 : waitsOk lychref1_IpBytes.T9.2 lychref1_IpBytes.B9 = true := by kernel_rfl
theorem lychref1_IpBytes.calls (k : Nat) (a0_0 : Int) (a0_1 : Int) (a0_2 : Int) (a0_3 : Int) (a0_4 : Int) (a0_5 : Int) (a0_6 : Int) (a0_7 : Int) (A0_8 : Option Addr) (c0_8 : Nat) (l0_8 : List Int) (A0_9 : Option Addr) (c0_9 : Nat) (l0_9 : List Int) (r1 : List Int) (r2 : Int) (w : World) (hr0_8 : Kd.C (Kd.int .u8) w A0_8 l0_8.length l0_8) (hc0_8 : l0_8.length <= c0_8) (hr0_9 : Kd.C (Kd.int .u8) w A0_9 l0_9.length l0_9) (hc0_9 : l0_9.length <= c0_9) (h : lychref1_IpBytes.f k a0_0 a0_1 a0_2 a0_3 a0_4 a0_5 a0_6 a0_7 l0_8 l0_9 = some (r1, r2)) :
  Calls Try.prog 41 #[.agg #[.int .u8 a0_0, .int .u8 a0_1, .int .u8 a0_2, .int .u16 a0_3, .int .u8 a0_4, .int .u16 a0_5, .int .u32 a0_6, .int .u32 a0_7, .slice A0_8 l0_8.length c0_8, .slice A0_9 l0_9.length c0_9]] w fun e w' => ∃ v0_ : Value, e = .returned (.tuple #[v0_, .int .i64 r2]) /\ Kd.R (Kd.int .u8) 5 w' w.heap.size (fun _ => True) v0_ r1 /\ Below w.heap.size w w' := by
 have hu73 := Try.underlying73; have HR0_8 := Aside0.mk hr0_8; have HC0_8 := Aside0.mk hc0_8; clear hr0_8 hc0_8; have HR0_9 := Aside0.mk hr0_9; have HC0_9 := Aside0.mk hc0_9; clear hr0_9 hc0_9; have HB := Aside0.mk (Below.refl w.heap.size w); have H : (if ((l0_8.length : Int) % 4) = 0 then (if (l0_8.length : Int) > 40 then (lychref1_IpBytes.j0 k true a0_0 a0_1 a0_2 a0_3 a0_4 a0_5 a0_6 a0_7 l0_8 l0_9) else (if a0_4 > 7 then (lychref1_IpBytes.j0 k true a0_0 a0_1 a0_2 a0_3 a0_4 a0_5 a0_6 a0_7 l0_8 l0_9) else (lychref1_IpBytes.j0 k (decide (a0_5 > 8191)) a0_0 a0_1 a0_2 a0_3 a0_4 a0_5 a0_6 a0_7 l0_8 l0_9))) else (lychref1_IpBytes.j0 k true a0_0 a0_1 a0_2 a0_3 a0_4 a0_5 a0_6 a0_7 l0_8 l0_9)) = some (r1, r2) := h; clear h; have HC2 := Aside0.mk H; clear H
 go_enter Try.func41, Try.ntmps41
 go_upto_region 1 with (first | ((with_reducible refine gate_dst (N := 1) rfl ?_); (try (refine gate_guard (by rfl) ?_; dsimp only)); refine box_event ?hg (N := 1) ?hd (cs := #[.int .u8 a0_0, .int .u8 a0_1, .int .u8 a0_2, .int .u16 a0_3, .int .u8 a0_4, .int .u16 a0_5, .int .u32 a0_6, .int .u32 a0_7, .slice A0_8 l0_8.length c0_8, .slice A0_9 l0_9.length c0_9]) (t := 73) ?hr ?_; (case hd => rfl); (case hg => rfl); (case hr => first | (go_simp; done) | (go_simp; rfl)); intro gb308 hg w3 hbox hb; have n0_ := Aside0.mk (below_step (bz HB) hb); have n1_ := Aside0.mk (hbox); have n2_ := Aside0.mk ((by rw [hg]; exact (below_size (bz HB)) : w.heap.size <= gb308)); have n3_ := Aside0.mk ((by rw [hg]; exact (below_size (bz HB)) : w.heap.size <= gb308)); clear HB; have HB := n0_; have BK308 := n1_; have GW308 := n2_; have GE308 := n3_; clear n0_ n1_ n2_ n3_; clear hb hbox hg))
 (try simp only [Act.put, List.setIfInBounds_toArray, List.set_cons_zero, List.set_cons_succ])
 go_cut [27] (fun v27 wc => ∃ (kq : Nat) (x27_1 : Bool), v27 = .bool x27_1 /\ Aside0 (lychref1_IpBytes.j0 kq x27_1 a0_0 a0_1 a0_2 a0_3 a0_4 a0_5 a0_6 a0_7 l0_8 l0_9 = some (r1, r2)) /\ Aside0 (kq <= k) /\ Aside0 (wc.heap[gb308]? = some (.cells #[.int .u8 a0_0, .int .u8 a0_1, .int .u8 a0_2, .int .u16 a0_3, .int .u8 a0_4, .int .u16 a0_5, .int .u32 a0_6, .int .u32 a0_7, (.slice A0_8 l0_8.length c0_8), (.slice A0_9 l0_9.length c0_9)] 73 (0, 0))) /\ Aside0 (Below w.heap.size w wc))
 case first =>
  have H := HC2.out; clear HC2
  by_cases c4 : ((l0_8.length : Int) % 4) = 0
  ·rw [if_pos c4] at H
   have c4b0 : (((l0_8.length : Int) % 4) == 0) = true := beq_iff_eq.mpr c4; have c4b1 : (((l0_8.length : Int) % 4) != 0) = false := bne_eq_false_iff_eq.mpr c4; clear c4
   (first | rw [c4b0] | (simp only [i64_w, i32_w]; rw [c4b0]) | skip)
   by_cases c5 : (l0_8.length : Int) > 40
   ·rw [if_pos c5] at H
    have c5b0 : decide (40 < (l0_8.length : Int)) = true := decide_eq_true c5; have c5b1 : decide (40 < l0_8.length) = true := decide_eq_true (by omega); clear c5; have H' := Aside0.mk H; clear H; have hcz6_0_ := cs10 BK308.out; have hfz6_0_ := blk_frozen BK308.out
    go_wp2
    go_meet
    case rel => exact ⟨_, (true), (by first | rfl | (simp; done) | (simp [*]; done)), H', ⟨by first | omega | exact Nat.le_refl _⟩, ⟨kz BK308⟩, ⟨bz HB⟩⟩
   ·rw [if_neg c5] at H
    have c5b0 : decide (40 < (l0_8.length : Int)) = false := decide_eq_false c5; have c5b1 : decide (40 < l0_8.length) = false := decide_eq_false (by omega); clear c5
    by_cases c7 : a0_4 > 7
    ·rw [if_pos c7] at H
     have c7b0 : decide (7 < a0_4) = true := decide_eq_true c7; clear c7; have H' := Aside0.mk H; clear H; have hcz8_0_ := cs10 BK308.out; have hfz8_0_ := blk_frozen BK308.out
     go_wp2
     go_meet
     case rel => exact ⟨_, (true), (by first | rfl | (simp; done) | (simp [*]; done)), H', ⟨by first | omega | exact Nat.le_refl _⟩, ⟨kz BK308⟩, ⟨bz HB⟩⟩
    ·rw [if_neg c7] at H
     have c7b0 : decide (7 < a0_4) = false := decide_eq_false c7; clear c7; have H' := Aside0.mk H; clear H; have hcz9_0_ := cs10 BK308.out; have hfz9_0_ := blk_frozen BK308.out
     go_wp2
     go_meet
     case rel => exact ⟨_, (decide (a0_5 > 8191)), (by first | rfl | (simp; done) | (simp [*]; done)), H', ⟨by first | omega | exact Nat.le_refl _⟩, ⟨kz BK308⟩, ⟨bz HB⟩⟩
  ·rw [if_neg c4] at H
   have c4b0 : (((l0_8.length : Int) % 4) == 0) = false := beq_eq_false_iff_ne.mpr c4; have c4b1 : (((l0_8.length : Int) % 4) != 0) = true := bne_iff_ne.mpr c4
   (first | rw [c4b0] | (simp only [i64_w, i32_w]; rw [c4b0]) | skip)
   have H' := Aside0.mk H; clear H; have hcz10_0_ := cs10 BK308.out; have hfz10_0_ := blk_frozen BK308.out
   go_wp2
   go_meet
   case rel => exact ⟨_, (true), (by first | rfl | (simp; done) | (simp [*]; done)), H', ⟨by first | omega | exact Nat.le_refl _⟩, ⟨kz BK308⟩, ⟨bz HB⟩⟩
 case rest =>
  clear HC2; obtain ⟨kq, x27_1, rfl, HA, HJ1, BK308, HB⟩ := hcut
  cases kq with
  | zero => exact absurd HA.out (by simp [lychref1_IpBytes.j0])
  | succ kj1 =>
   have H := HA.out; clear HA; simp only [lychref1_IpBytes.j0] at H
   by_cases c11 : x27_1 = true
   ·subst c11
    have H1 : (some (([] : List Int), 21)) = some (r1, r2) := by rw [if_pos rfl] at H; exact H
    clear H; have H := H1; clear H1; simp only [Option.some.injEq, Prod.mk.injEq] at H
    obtain ⟨rfl, rfl⟩ := H
    go_wp2
    go_ret2
    exact ⟨_, by first | rfl | (simp [errW_none, errW_some] <;> rfl) | (simp [*, errW_none, errW_some] <;> rfl), by first | exact Kd.R_nil _ _ _ _ _ | exact Kd.N_nil _ _ _ _ _ | exact Kd.V_nil _ _ _ _ _ | exact Kd.Q_nil _ _ _ _ _ | exact Kd.S_nil _ _ _ _ _, bz HB⟩
   ·replace c11 := Bool.eq_false_iff.mpr c11
    subst c11
    have H1 : (if (l0_9.length : Int) > (wrap64 (65535 - (wrap64 (20 + (l0_8.length : Int))))) then (some (([] : List Int), 23)) else ((lychref1_Put16.f (([Go.bits .or .u8 64 ((wrap64 (Int.tdiv (wrap64 (20 + (l0_8.length : Int))) 4)) % 256), a0_0] : List Int)) (IntKind.u16.wrap (wrap64 ((wrap64 (20 + (l0_8.length : Int))) + (l0_9.length : Int))))).bind fun t312 => ((lychref1_Put16.f t312 a0_3).bind fun t315 => ((lychref1_Put16.f t315 (Go.bits .or .u16 (IntKind.u16.wrap ((IntKind.u16.wrap (a0_4)) * 8192)) a0_5)).bind fun t318 => ((some (([a0_1, a0_2, 0, 0] : List Int) : List Int)).bind fun y321 => (if t318.length + y321.length < 140737488355328 then ((lychref1_Put32.f (t318 ++ y321) a0_6).bind fun t327 => ((lychref1_Put32.f t327 a0_7).bind fun t330 => (if t330.length + l0_8.length < 140737488355328 then ((some (t330 ++ l0_8 : List Int)).bind fun y333 => ((lychref1_Of.f kj1 y333).bind fun t336 => (if 10 < (y333.length : Int) then (if 11 < (y333.length : Int) then ((some ((y333.set (10 : Int).toNat ((t336 / 256) % 256)).set (11 : Int).toNat ((t336) % 256) : List Int)).bind fun y338 => (if y338.length + l0_9.length < 140737488355328 then (some ((y338 ++ l0_9), 0)) else (none))) else (none)) else (none)))) else (none)))) else (none))))))) = some (r1, r2) := by rw [if_neg (show ¬ (false = true) by decide)] at H; exact H
    clear H; have H := H1; clear H1
    by_cases c12 : (l0_9.length : Int) > (wrap64 (65535 - (wrap64 (20 + (l0_8.length : Int)))))
    ·rw [if_pos c12] at H
     have c12b0 : decide ((wrap64 (65535 - (wrap64 (20 + (l0_8.length : Int))))) < (l0_9.length : Int)) = true := decide_eq_true c12; clear c12; simp only [Option.some.injEq, Prod.mk.injEq] at H
     obtain ⟨rfl, rfl⟩ := H; have hcz13_0_ := cs10 BK308.out; have hfz13_0_ := blk_frozen BK308.out
     go_wp2
     go_ret2
     exact ⟨_, by first | rfl | (simp [errW_none, errW_some] <;> rfl) | (simp [*, errW_none, errW_some] <;> rfl), by first | exact Kd.R_nil _ _ _ _ _ | exact Kd.N_nil _ _ _ _ _ | exact Kd.V_nil _ _ _ _ _ | exact Kd.Q_nil _ _ _ _ _ | exact Kd.S_nil _ _ _ _ _, bz HB⟩
    ·rw [if_neg c12] at H
     have c12b0 : decide ((wrap64 (65535 - (wrap64 (20 + (l0_8.length : Int))))) < (l0_9.length : Int)) = false := decide_eq_false c12; clear c12; obtain ⟨y309, hy309⟩ : ∃ y_ : List Int, y_ = (([Go.bits .or .u8 64 ((wrap64 (Int.tdiv (wrap64 (20 + (l0_8.length : Int))) 4)) % 256), a0_0] : List Int)) := ⟨_, rfl⟩
     rw [<- hy309] at H
     have Ny309 := Aside0.mk hy309; clear hy309; replace H := Option.bind_eq_some_iff.mp H; obtain ⟨t312, A140, H⟩ := H
     (try dsimp -simprocs only at H)
     have A14 := Aside0.mk A140; clear A140; replace H := Option.bind_eq_some_iff.mp H; obtain ⟨t315, A150, H⟩ := H
     (try dsimp -simprocs only at H)
     have A15 := Aside0.mk A150; clear A150; replace H := Option.bind_eq_some_iff.mp H; obtain ⟨t318, A160, H⟩ := H
     (try dsimp -simprocs only at H)
     have A16 := Aside0.mk A160; clear A160; obtain ⟨y321, hy321⟩ : ∃ y_ : List Int, y_ = (([a0_1, a0_2, 0, 0] : List Int)) := ⟨_, rfl⟩
     replace H : (if t318.length + y321.length < 140737488355328 then ((lychref1_Put32.f (t318 ++ y321) a0_6).bind fun t327 => ((lychref1_Put32.f t327 a0_7).bind fun t330 => (if t330.length + l0_8.length < 140737488355328 then ((some (t330 ++ l0_8 : List Int)).bind fun y333 => ((lychref1_Of.f kj1 y333).bind fun t336 => (if 10 < (y333.length : Int) then (if 11 < (y333.length : Int) then ((some ((y333.set (10 : Int).toNat ((t336 / 256) % 256)).set (11 : Int).toNat ((t336) % 256) : List Int)).bind fun y338 => (if y338.length + l0_9.length < 140737488355328 then (some ((y338 ++ l0_9), 0)) else (none))) else (none)) else (none)))) else (none)))) else (none)) = some (r1, r2) := by first | (rw [hy321]; with_reducible exact H) | (have H2_ := (Option.bind_some _ _).symm.trans H; rw [hy321]; with_reducible exact H2_) | (have H2_ := (Option.bind_some _ _).symm.trans H; with_reducible exact H2_) | with_reducible exact H | (rw [hy321]; exact H) | exact H
     have Ny321 := Aside0.mk hy321; clear hy321
     by_cases c17 : t318.length + y321.length < 140737488355328
     ·rw [if_pos c17] at H
      have LMc17 := Aside0.mk c17; clear c17; obtain ⟨y324, hy324⟩ : ∃ y_ : List Int, y_ = (t318 ++ y321) := ⟨_, rfl⟩
      rw [<- hy324] at H
      have Ny324 := Aside0.mk hy324; clear hy324; replace H := Option.bind_eq_some_iff.mp H; obtain ⟨t327, A180, H⟩ := H
      (try dsimp -simprocs only at H)
      have A18 := Aside0.mk A180; clear A180; replace H := Option.bind_eq_some_iff.mp H; obtain ⟨t330, A190, H⟩ := H
      (try dsimp -simprocs only at H)
      have A19 := Aside0.mk A190; clear A190
      by_cases c20 : t330.length + l0_8.length < 140737488355328
      ·rw [if_pos c20] at H
       have LMc20 := Aside0.mk c20; clear c20; obtain ⟨y333, hy333⟩ : ∃ y_ : List Int, y_ = (t330 ++ l0_8) := ⟨_, rfl⟩
       replace H : ((lychref1_Of.f kj1 y333).bind fun t336 => (if 10 < (y333.length : Int) then (if 11 < (y333.length : Int) then ((some ((y333.set (10 : Int).toNat ((t336 / 256) % 256)).set (11 : Int).toNat ((t336) % 256) : List Int)).bind fun y338 => (if y338.length + l0_9.length < 140737488355328 then (some ((y338 ++ l0_9), 0)) else (none))) else (none)) else (none))) = some (r1, r2) := by first | (rw [hy333]; with_reducible exact H) | (have H2_ := (Option.bind_some _ _).symm.trans H; rw [hy333]; with_reducible exact H2_) | (have H2_ := (Option.bind_some _ _).symm.trans H; with_reducible exact H2_) | with_reducible exact H | (rw [hy333]; exact H) | exact H
       have Ny333 := Aside0.mk hy333; clear hy333; replace H := Option.bind_eq_some_iff.mp H; obtain ⟨t336, A210, H⟩ := H; replace H : (if 10 < (y333.length : Int) then (if 11 < (y333.length : Int) then ((some ((y333.set (10 : Int).toNat ((t336 / 256) % 256)).set (11 : Int).toNat ((t336) % 256) : List Int)).bind fun y338 => (if y338.length + l0_9.length < 140737488355328 then (some ((y338 ++ l0_9), 0)) else (none))) else (none)) else (none)) = some (r1, r2) := H; have A21 := Aside0.mk A210; clear A210
       by_cases c22 : 10 < (y333.length : Int)
       ·rw [if_pos c22] at H
        have c22b0 : decide (10 < (y333.length : Int)) = true := decide_eq_true c22; have c22b1 : decide (10 < y333.length) = true := decide_eq_true (by omega); clear c22; obtain ⟨y337, hy337⟩ : ∃ y_ : List Int, y_ = (y333.set (10 : Int).toNat ((t336 / 256) % 256)) := ⟨_, rfl⟩
        rw [<- hy337] at H
        have Ny337 := Aside0.mk hy337; clear hy337
        by_cases c24 : 11 < (y333.length : Int)
        ·rw [if_pos c24] at H
         have c24b0 : decide (11 < (y333.length : Int)) = true := decide_eq_true c24; have c24b1 : decide (11 < y333.length) = true := decide_eq_true (by omega); clear c24; obtain ⟨y338, hy338⟩ : ∃ y_ : List Int, y_ = (y337.set (11 : Int).toNat ((t336) % 256)) := ⟨_, rfl⟩
         replace H : (if y338.length + l0_9.length < 140737488355328 then (some ((y338 ++ l0_9), 0)) else (none)) = some (r1, r2) := by first | (rw [hy338]; with_reducible exact H) | (have H2_ := (Option.bind_some _ _).symm.trans H; rw [hy338]; with_reducible exact H2_) | (have H2_ := (Option.bind_some _ _).symm.trans H; with_reducible exact H2_) | with_reducible exact H | (rw [hy338]; exact H) | exact H
         have Ny338 := Aside0.mk hy338; clear hy338
         by_cases c26 : y338.length + l0_9.length < 140737488355328
         ·rw [if_pos c26] at H
          have LMc26 := Aside0.mk c26; clear c26; obtain ⟨y339, hy339⟩ : ∃ y_ : List Int, y_ = (y338 ++ l0_9) := ⟨_, rfl⟩
          replace H : (some (y339, 0)) = some (r1, r2) := by first | (rw [hy339]; with_reducible exact H) | (have H2_ := (Option.bind_some _ _).symm.trans H; rw [hy339]; with_reducible exact H2_) | (have H2_ := (Option.bind_some _ _).symm.trans H; with_reducible exact H2_) | with_reducible exact H | (rw [hy339]; exact H) | exact H
          have Ny339 := Aside0.mk hy339; clear hy339; simp only [Option.some.injEq, Prod.mk.injEq] at H
          obtain ⟨rfl, rfl⟩ := H; have hcz27_0_ := cs10 BK308.out; have hfz27_0_ := blk_frozen BK308.out
          try go_wp2_with (first | ((with_reducible refine gate_dst (N := 44) rfl ?_); (try (refine gate_guard (by rfl) ?_; dsimp only)); refine Kd.R_lit (Kd.int .u8) _ 5 ?hg (N := 44) ?hd (xs := ([Go.bits .or .u8 64 ((wrap64 (Int.tdiv (wrap64 (20 + (l0_8.length : Int))) 4)) % 256), a0_0] : List Int)) (inner := [.int .u8 (Go.bits .or .u8 64 ((wrap64 (Int.tdiv (wrap64 (20 + (l0_8.length : Int))) 4)) % 256)), .int .u8 a0_0]) (ok := fun _ => True) (okp := fun _ => True) ?hr ?hp (fun _ hk => hk) trivial (Below.refl _ _) (Nat.le_refl _) (by simp) ?_; (case hd => rfl); (case hg => rfl); (case hr => first | (go_simp; done) | (go_simp; simp only [IntKind.wrap_u8, IntKind.wrap_u16, IntKind.wrap_u32]; done) | (go_simp; rfl)); (case hp => exact (Reps.one (show Kd.M (Kd.int .u8) _ _ _ (Go.bits .or .u8 64 ((wrap64 (Int.tdiv (wrap64 (20 + (l0_8.length : Int))) 4)) % 256)) [.int .u8 (Go.bits .or .u8 64 ((wrap64 (Int.tdiv (wrap64 (20 + (l0_8.length : Int))) 4)) % 256))] from rfl) (Reps.one (show Kd.M (Kd.int .u8) _ _ _ a0_0 [.int .u8 a0_0] from rfl) (Reps.none _ _)))); intro v310 w28 ho29 hb hg_ hnew_; clear hg_ hnew_; (first | rw [<- Ny309.out] at ho29 | (simp only [Int.reduceToNat] at ho29; rw [<- Ny309.out] at ho29)); have n0_ := Aside0.mk (Kd.R_lower ho29 (below_size (bz HB))); have n1_ := Aside0.mk (blk_below (kz BK308) hb); have n2_ := Aside0.mk (below_step (bz HB) hb); clear BK308; clear HB; have HO311 := n0_; have BK308 := n1_; have HB := n2_; clear n0_ n1_ n2_; clear hb ho29))
          have n0_ := Aside0.mk (Kd.R_drew HO311.out); have n1_ := Aside0.mk (blk_drew BK308.out); have n2_ := Aside0.mk (below_drew1 HB.out); clear HO311; clear BK308; clear HB; have HO311 := n0_; have BK308 := n1_; have HB := n2_; clear n0_ n1_ n2_; obtain ⟨Ao31, co31, eo31⟩ := Kd.R_slice HO311.out
          (first | subst eo31 | (injection eo31 with f1_ f2_ f3_; have f4_ := f1_.symm; have f5_ := f3_.symm; clear f1_ f2_ f3_; subst f4_; subst f5_))
          refine start_ (n := 12) (S := fun w' => w'.cell? ⟨gb308, 0, none⟩ = some (.int .u8 a0_0) /\ w'.cell? ⟨gb308, 1, none⟩ = some (.int .u8 a0_1) /\ w'.cell? ⟨gb308, 2, none⟩ = some (.int .u8 a0_2) /\ w'.cell? ⟨gb308, 3, none⟩ = some (.int .u16 a0_3) /\ w'.cell? ⟨gb308, 4, none⟩ = some (.int .u8 a0_4) /\ w'.cell? ⟨gb308, 5, none⟩ = some (.int .u16 a0_5) /\ w'.cell? ⟨gb308, 6, none⟩ = some (.int .u32 a0_6) /\ w'.cell? ⟨gb308, 7, none⟩ = some (.int .u32 a0_7) /\ w'.cell? ⟨gb308, 8, none⟩ = some (.slice A0_8 l0_8.length c0_8) /\ w'.cell? ⟨gb308, 9, none⟩ = some (.slice A0_9 l0_9.length c0_9)) (ds := []) #[false, false, false, false, false, false, false, false, false, false, false, false] (by kernel_rfl) rfl rfl ⟨cz BK308.out 0 rfl, cz BK308.out 1 rfl, cz BK308.out 2 rfl, cz BK308.out 3 rfl, cz BK308.out 4 rfl, cz BK308.out 5 rfl, cz BK308.out 6 rfl, cz BK308.out 7 rfl, cz BK308.out 8 rfl, cz BK308.out 9 rfl⟩ (fun hHeld => ?_); refine with_tabW lychref1_IpBytes.tab7 lychref1_IpBytes.bits7 (fun HT_ HW_ => ?_)
          generalize w28.drew = w30 at HO311 BK308 HB hHeld |-
          refine pz 0 45 HT_ ?_; refine pz 1 46 HT_ ?_; refine pz 2 47 HT_ ?_; refine pz 8 53 HT_ ?_; refine take_ (i := 3) (N := some 48) (v := ?_) (a' := ?_) #[true, true, true, true, false, false, false, false, true, false, false, false] rfl rfl (take_ofW HT_.out HW_.out (by kernel_rfl)) (fun _ _ _ h => h) (Or.inl ⟨by rfl, ?_⟩) hHeld ?_ ?_
          rotate_left
          ·rintro w' ⟨s0, s1, s2, s3, s4, s5, s6, s7, s8, s9⟩
           go_simp
           with_reducible rfl
          rotate_left
          ·simp only [ps_]
           rfl
          refine pz 4 49 HT_ ?_; refine pz 5 50 HT_ ?_; refine pz 6 51 HT_ ?_; refine take_ (i := 9) (N := some 54) (v := ?_) (a' := ?_) #[true, true, true, true, true, true, true, false, true, true, false, false] rfl rfl (take_ofW HT_.out HW_.out (by kernel_rfl)) (fun _ _ _ h => h) (Or.inl ⟨by rfl, ?_⟩) hHeld ?_ ?_
          rotate_left
          ·rintro w' ⟨s0, s1, s2, s3, s4, s5, s6, s7, s8, s9⟩
           go_simp
           with_reducible rfl
          rotate_left
          ·simp only [ps_]
           rfl
          refine oz 7 (some 52) HT_ (fun K hK => ?_); refine gG Try.func83 #[.slice Ao31 y309.length co31, .int .u16 (IntKind.u16.wrap (wrap64 ((wrap64 (20 + (l0_8.length : Int))) + (l0_9.length : Int))))] ?_
          with_reducible refine (lychref1_Put16.calls (fun k_ => some k_ = (.slice Ao31 y309.length co31 : Value).ownBlock) (.slice Ao31 y309.length co31) y309 (IntKind.u16.wrap (wrap64 ((wrap64 (20 + (l0_8.length : Int))) + (l0_9.length : Int)))) t312 w _ ?side1 ?side2 A14.out).mono ?_
          (case side1 => exact bz HB)
          (case side2 => exact Kd.R_tight rfl HO311.out)
          rintro e w32 ⟨v313, rfl, ho0, hb, hkp⟩; refine ⟨_, rfl, ?_⟩; have n0_ := Aside0.mk (blk_kept (kz BK308) hkp (fun hs_ => (fun e_ => (Kd.R_ne HO311.out BK308.out (by decide)) e_) hs_)); have n1_ := Aside0.mk (Kd.R_mono (ok' := fun k_ => True) ho0 (fun k_ hk_ => trivial)); have n2_ := Aside0.mk (hb); clear BK308; clear HB; clear HO311; have BK308 := n0_; have HO314 := n1_; have HB := n2_; clear n0_ n1_ n2_
          (try clear hb)
          (try clear hkp)
          (try clear ho0)
          obtain ⟨Ao33, co33, eo33⟩ := Kd.R_slice HO314.out
          (first | subst eo33 | (injection eo33 with f1_ f2_ f3_; have f4_ := f1_.symm; have f5_ := f3_.symm; clear f1_ f2_ f3_; subst f4_; subst f5_))
          refine hK.out _ _ ⟨cz BK308.out 0 rfl, cz BK308.out 1 rfl, cz BK308.out 2 rfl, cz BK308.out 3 rfl, cz BK308.out 4 rfl, cz BK308.out 5 rfl, cz BK308.out 6 rfl, cz BK308.out 7 rfl, cz BK308.out 8 rfl, cz BK308.out 9 rfl⟩ (fun hHeld => ?_); clear hK K; refine nz 52 ?_; refine oz 10 (some 55) HT_ (fun K hK => ?_); refine gG Try.func83 #[.slice Ao33 t312.length co33, .int .u16 a0_3] ?_
          with_reducible refine (lychref1_Put16.calls (fun k_ => some k_ = (.slice Ao33 t312.length co33 : Value).ownBlock) (.slice Ao33 t312.length co33) t312 a0_3 t315 w _ ?side1 ?side2 A15.out).mono ?_
          (case side1 => exact bz HB)
          (case side2 => exact Kd.R_tight rfl HO314.out)
          rintro e w34 ⟨v316, rfl, ho0, hb, hkp⟩; refine ⟨_, rfl, ?_⟩; have n0_ := Aside0.mk (blk_kept (kz BK308) hkp (fun hs_ => (fun e_ => (Kd.R_ne HO314.out BK308.out (by decide)) e_) hs_)); have n1_ := Aside0.mk (Kd.R_mono (ok' := fun k_ => True) ho0 (fun k_ hk_ => trivial)); have n2_ := Aside0.mk (hb); clear BK308; clear HB; clear HO314; have BK308 := n0_; have HO317 := n1_; have HB := n2_; clear n0_ n1_ n2_
          (try clear hb)
          (try clear hkp)
          (try clear ho0)
          refine hK.out _ _ ⟨cz BK308.out 0 rfl, cz BK308.out 1 rfl, cz BK308.out 2 rfl, cz BK308.out 3 rfl, cz BK308.out 4 rfl, cz BK308.out 5 rfl, cz BK308.out 6 rfl, cz BK308.out 7 rfl, cz BK308.out 8 rfl, cz BK308.out 9 rfl⟩ (fun hHeld => ?_); clear hK K; refine nz 55 ?_; refine pz 11 5 HT_ ?_; refine dz HT_ ?_; obtain ⟨Ao35, co35, eo35⟩ := Kd.R_slice HO317.out; subst eo35
          try go_wp2
          have n0_ := Aside0.mk (Kd.R_drew HO317.out); have n1_ := Aside0.mk (blk_drew BK308.out); have n2_ := Aside0.mk (below_drew1 HB.out); clear HO317; clear BK308; clear HB; have HO317 := n0_; have BK308 := n1_; have HB := n2_; clear n0_ n1_ n2_
          refine start_ (n := 16) (S := fun w' => w'.cell? ⟨gb308, 0, none⟩ = some (.int .u8 a0_0) /\ w'.cell? ⟨gb308, 1, none⟩ = some (.int .u8 a0_1) /\ w'.cell? ⟨gb308, 2, none⟩ = some (.int .u8 a0_2) /\ w'.cell? ⟨gb308, 3, none⟩ = some (.int .u16 a0_3) /\ w'.cell? ⟨gb308, 4, none⟩ = some (.int .u8 a0_4) /\ w'.cell? ⟨gb308, 5, none⟩ = some (.int .u16 a0_5) /\ w'.cell? ⟨gb308, 6, none⟩ = some (.int .u32 a0_6) /\ w'.cell? ⟨gb308, 7, none⟩ = some (.int .u32 a0_7) /\ w'.cell? ⟨gb308, 8, none⟩ = some (.slice A0_8 l0_8.length c0_8) /\ w'.cell? ⟨gb308, 9, none⟩ = some (.slice A0_9 l0_9.length c0_9)) (ds := []) #[false, false, false, false, false, false, false, false, false, false, false, false, false, false, false, false] (by kernel_rfl) rfl rfl ⟨cz BK308.out 0 rfl, cz BK308.out 1 rfl, cz BK308.out 2 rfl, cz BK308.out 3 rfl, cz BK308.out 4 rfl, cz BK308.out 5 rfl, cz BK308.out 6 rfl, cz BK308.out 7 rfl, cz BK308.out 8 rfl, cz BK308.out 9 rfl⟩ (fun hHeld => ?_); refine with_tabW lychref1_IpBytes.tab8 lychref1_IpBytes.bits8 (fun HT_ HW_ => ?_)
          generalize w34.drew = w36 at HO317 BK308 HB hHeld |-
          refine pz 0 56 HT_ ?_; refine pz 1 57 HT_ ?_; refine pz 5 61 HT_ ?_; refine pz 9 65 HT_ ?_; refine pz 11 67 HT_ ?_; refine take_ (i := 2) (N := some 58) (v := ?_) (a' := ?_) #[true, true, true, false, false, true, false, false, false, true, false, true, false, false, false, false] rfl rfl (take_ofW HT_.out HW_.out (by kernel_rfl)) (fun _ _ _ h => h) (Or.inl ⟨by rfl, ?_⟩) hHeld ?_ ?_
          rotate_left
          ·rintro w' ⟨s0, s1, s2, s3, s4, s5, s6, s7, s8, s9⟩
           go_simp
           with_reducible rfl
          rotate_left
          ·simp only [ps_]
           rfl
          refine pz 3 59 HT_ ?_; refine pz 4 60 HT_ ?_; refine take_ (i := 6) (N := some 62) (v := ?_) (a' := ?_) #[true, true, true, true, true, true, true, false, false, true, false, true, false, false, false, false] rfl rfl (take_ofW HT_.out HW_.out (by kernel_rfl)) (fun _ _ _ h => h) (Or.inl ⟨by rfl, ?_⟩) hHeld ?_ ?_
          rotate_left
          ·rintro w' ⟨s0, s1, s2, s3, s4, s5, s6, s7, s8, s9⟩
           go_simp
           with_reducible rfl
          rotate_left
          ·simp only [ps_]
           rfl
          refine pz 7 63 HT_ ?_; refine take_ (i := 10) (N := some 66) (v := ?_) (a' := ?_) #[true, true, true, true, true, true, true, true, false, true, true, true, false, false, false, false] rfl rfl (take_ofW HT_.out HW_.out (by kernel_rfl)) (fun _ _ _ h => h) (Or.inl ⟨by rfl, ?_⟩) hHeld ?_ ?_
          rotate_left
          ·rintro w' ⟨s0, s1, s2, s3, s4, s5, s6, s7, s8, s9⟩
           go_simp
           with_reducible rfl
          rotate_left
          ·simp only [ps_]
           rfl
          refine take_ (i := 12) (N := some 68) (v := ?_) (a' := ?_) #[true, true, true, true, true, true, true, true, false, true, true, true, true, false, false, false] rfl rfl (take_ofW HT_.out HW_.out (by kernel_rfl)) (fun _ _ _ h => h) (Or.inl ⟨by rfl, ?_⟩) hHeld ?_ ?_
          rotate_left
          ·rintro w' ⟨s0, s1, s2, s3, s4, s5, s6, s7, s8, s9⟩
           go_simp
           with_reducible rfl
          rotate_left
          ·simp only [ps_]
           rfl
          refine join_ (σ := Value × Value) 2 #[true, true, true, true, true, true, true, true, true, true, true, true, true, true, false, false] (fun s_ => [(64, s_.1), (69, s_.2)]) (fun s_ w' => (w'.cell? ⟨gb308, 0, none⟩ = some (.int .u8 a0_0) /\ w'.cell? ⟨gb308, 1, none⟩ = some (.int .u8 a0_1) /\ w'.cell? ⟨gb308, 2, none⟩ = some (.int .u8 a0_2) /\ w'.cell? ⟨gb308, 3, none⟩ = some (.int .u16 a0_3) /\ w'.cell? ⟨gb308, 4, none⟩ = some (.int .u8 a0_4) /\ w'.cell? ⟨gb308, 5, none⟩ = some (.int .u16 a0_5) /\ w'.cell? ⟨gb308, 6, none⟩ = some (.int .u32 a0_6) /\ w'.cell? ⟨gb308, 7, none⟩ = some (.int .u32 a0_7) /\ w'.cell? ⟨gb308, 8, none⟩ = some (.slice A0_8 l0_8.length c0_8) /\ w'.cell? ⟨gb308, 9, none⟩ = some (.slice A0_9 l0_9.length c0_9)) /\ (Kd.R (Kd.int .u8) 5 w' w.heap.size (fun k_ => some k_ ≠ (s_.2 : Value).ownBlock) s_.1 t318) /\ (Kd.R (Kd.int .u8) 5 w' w.heap.size (fun k_ => some k_ ≠ (s_.1 : Value).ownBlock) s_.2 y321) /\ (w'.heap[gb308]? = some (.cells #[.int .u8 a0_0, .int .u8 a0_1, .int .u8 a0_2, .int .u16 a0_3, .int .u8 a0_4, .int .u16 a0_5, .int .u32 a0_6, .int .u32 a0_7, .slice A0_8 l0_8.length c0_8, .slice A0_9 l0_9.length c0_9] 73 (0, 0))) /\ (Below w.heap.size w w')) ?_ ?_
          rotate_left
          ·intro hCont
           refine two_ (i := 8) (j := 13) (Ni := some 64) (Nj := some 69) #[true, true, true, true, true, true, true, true, true, true, true, true, true, false, false, false] #[true, true, true, true, true, true, true, true, false, true, true, true, true, true, false, false] rfl rfl rfl rfl (two_of HT_.out (by kernel_rfl)) (by decide) (by decide) (fun K hK => ?_) (fun K hK => ?_)
           ·skip
            refine gG Try.func83 #[.slice Ao35 t315.length co35, .int .u16 (Go.bits .or .u16 (IntKind.u16.wrap ((IntKind.u16.wrap (a0_4)) * 8192)) a0_5)] ?_
            with_reducible refine (lychref1_Put16.calls (fun k_ => some k_ = (.slice Ao35 t315.length co35 : Value).ownBlock) (.slice Ao35 t315.length co35) t315 (Go.bits .or .u16 (IntKind.u16.wrap ((IntKind.u16.wrap (a0_4)) * 8192)) a0_5) t318 w _ ?side1 ?side2 A16.out).mono ?_
            (case side1 => exact bz HB)
            (case side2 => exact Kd.R_tight rfl HO317.out)
            rintro e w37 ⟨v319, rfl, ho0, hb, hkp⟩; refine ⟨_, rfl, ?_⟩; have n0_ := Aside0.mk (blk_kept (kz BK308) hkp (fun hs_ => (fun e_ => (Kd.R_ne HO317.out BK308.out (by decide)) e_) hs_)); have n1_ := Aside0.mk (Kd.R_mono (ok' := fun k_ => True) ho0 (fun k_ hk_ => trivial)); have n2_ := Aside0.mk (hb); clear BK308; clear HB; clear HO317; have BK308 := n0_; have HO320 := n1_; have HB := n2_; clear n0_ n1_ n2_
            (try clear hb)
            (try clear hkp)
            (try clear ho0)
            refine hK.out _ _ ⟨cz BK308.out 0 rfl, cz BK308.out 1 rfl, cz BK308.out 2 rfl, cz BK308.out 3 rfl, cz BK308.out 4 rfl, cz BK308.out 5 rfl, cz BK308.out 6 rfl, cz BK308.out 7 rfl, cz BK308.out 8 rfl, cz BK308.out 9 rfl⟩ (fun hHeld => ?_); clear hK K; refine nz 64 ?_; refine oz 13 (some 69) HT_ (fun K hK => ?_)
            refine Kd.R_lit_step (Kd.int .u8) _ 5 ?hg (N := 69) ?hd (xs := ([a0_1, a0_2, 0, 0] : List Int)) (inner := [.int .u8 a0_1, .int .u8 a0_2, .int .u8 0, .int .u8 0]) (ok := fun _ => True) (okp := fun _ => True) ?hr ?hp (fun _ hk => hk) trivial (Below.refl _ _) (Nat.le_refl _) (by simp) ?_; (case hd => rfl); (case hg => rfl); (case hr => first | (go_simp; done) | (go_simp; rfl)); (case hp => exact (Reps.one (show Kd.M (Kd.int .u8) _ _ _ a0_1 [.int .u8 a0_1] from rfl) (Reps.one (show Kd.M (Kd.int .u8) _ _ _ a0_2 [.int .u8 a0_2] from rfl) (Reps.one (show Kd.M (Kd.int .u8) _ _ _ 0 [.int .u8 0] from rfl) (Reps.one (show Kd.M (Kd.int .u8) _ _ _ 0 [.int .u8 0] from rfl) (Reps.none _ _)))))); intro v322 w38 ho39 hb hg_ hnew_; clear hg_ hnew_
            (first | rw [<- Ny321.out] at ho39 | (simp only [Int.reduceToNat] at ho39; rw [<- Ny321.out] at ho39))
            have n0_ := Aside0.mk (Kd.R_elder' (Kd.rz HO320) (Kd.R_base ho39) hb); have n1_ := Aside0.mk (Kd.R_lower (Kd.R_new' ho39 (Kd.R_lt (Kd.rz HO320))) (below_size (bz HB))); have n2_ := Aside0.mk (blk_below (kz BK308) hb); have n3_ := Aside0.mk (below_step (bz HB) hb); clear HO320; clear BK308; clear HB; have HO320 := n0_; have HO323 := n1_; have BK308 := n2_; have HB := n3_; clear n0_ n1_ n2_ n3_; clear hb ho39; refine hK.out _ _ ⟨cz BK308.out 0 rfl, cz BK308.out 1 rfl, cz BK308.out 2 rfl, cz BK308.out 3 rfl, cz BK308.out 4 rfl, cz BK308.out 5 rfl, cz BK308.out 6 rfl, cz BK308.out 7 rfl, cz BK308.out 8 rfl, cz BK308.out 9 rfl⟩ (fun hHeld => ?_); clear hK K; refine nz 69 ?_
            exact norm_ (by simp only [putAll, Act.put, List.setIfInBounds_toArray, List.set_cons_zero, List.set_cons_succ]) (hCont (v319, v322) _ ⟨hHeld, (by (with_reducible repeat (first | apply Kd.R_alloc | apply Kd.R_drewN | apply Kd.R_drew)); exact Kd.R_mono HO320.out (fun _ hk => hk.2)), (by (with_reducible repeat (first | apply Kd.R_alloc | apply Kd.R_drewN | apply Kd.R_drew)); exact Kd.R_mono HO323.out (fun _ hk => hk.2)), (kz BK308), (bz HB)⟩)
           ·skip
            refine Kd.R_lit_step (Kd.int .u8) _ 5 ?hg (N := 69) ?hd (xs := ([a0_1, a0_2, 0, 0] : List Int)) (inner := [.int .u8 a0_1, .int .u8 a0_2, .int .u8 0, .int .u8 0]) (ok := fun _ => True) (okp := fun _ => True) ?hr ?hp (fun _ hk => hk) trivial (Below.refl _ _) (Nat.le_refl _) (by simp) ?_; (case hd => rfl); (case hg => rfl); (case hr => first | (go_simp; done) | (go_simp; rfl)); (case hp => exact (Reps.one (show Kd.M (Kd.int .u8) _ _ _ a0_1 [.int .u8 a0_1] from rfl) (Reps.one (show Kd.M (Kd.int .u8) _ _ _ a0_2 [.int .u8 a0_2] from rfl) (Reps.one (show Kd.M (Kd.int .u8) _ _ _ 0 [.int .u8 0] from rfl) (Reps.one (show Kd.M (Kd.int .u8) _ _ _ 0 [.int .u8 0] from rfl) (Reps.none _ _)))))); intro v322 w37 ho38 hb hg_ hnew_; clear hg_ hnew_
            (first | rw [<- Ny321.out] at ho38 | (simp only [Int.reduceToNat] at ho38; rw [<- Ny321.out] at ho38))
            have n0_ := Aside0.mk (Kd.R_elder' (Kd.rz HO317) (Kd.R_base ho38) hb); have n1_ := Aside0.mk (Kd.R_lower (Kd.R_new' ho38 (Kd.R_lt (Kd.rz HO317))) (below_size (bz HB))); have n2_ := Aside0.mk (blk_below (kz BK308) hb); have n3_ := Aside0.mk (below_step (bz HB) hb); clear HO317; clear BK308; clear HB; have HO317 := n0_; have HO323 := n1_; have BK308 := n2_; have HB := n3_; clear n0_ n1_ n2_ n3_; clear hb ho38; refine hK.out _ _ ⟨cz BK308.out 0 rfl, cz BK308.out 1 rfl, cz BK308.out 2 rfl, cz BK308.out 3 rfl, cz BK308.out 4 rfl, cz BK308.out 5 rfl, cz BK308.out 6 rfl, cz BK308.out 7 rfl, cz BK308.out 8 rfl, cz BK308.out 9 rfl⟩ (fun hHeld => ?_); clear hK K; refine nz 69 ?_; refine oz 8 (some 64) HT_ (fun K hK => ?_); refine gG Try.func83 #[.slice Ao35 t315.length co35, .int .u16 (Go.bits .or .u16 (IntKind.u16.wrap ((IntKind.u16.wrap (a0_4)) * 8192)) a0_5)] ?_
            with_reducible refine (lychref1_Put16.calls (fun k_ => some k_ = (.slice Ao35 t315.length co35 : Value).ownBlock) (.slice Ao35 t315.length co35) t315 (Go.bits .or .u16 (IntKind.u16.wrap ((IntKind.u16.wrap (a0_4)) * 8192)) a0_5) t318 w _ ?side1 ?side2 A16.out).mono ?_
            (case side1 => exact bz HB)
            (case side2 => exact Kd.R_tight rfl HO317.out)
            rintro e w39 ⟨v319, rfl, ho0, hb, hkp⟩; refine ⟨_, rfl, ?_⟩; have n0_ := Aside0.mk (blk_kept (kz BK308) hkp (fun hs_ => (fun e_ => (Kd.R_ne HO317.out BK308.out (by decide)) e_) hs_)); have n1_ := Aside0.mk (Kd.R_mono (ok' := fun k_ => some k_ ≠ (v319 : Value).ownBlock) (Kd.R_keptB (HO323.out) hkp (fun k_ hk_ hs_ => (hk_.2) hs_)) (fun k_ hk_ => fun e_ => Or.elim (ho0.1 k_ e_.symm) (fun hs_ => hk_.2.1 hs_) (fun hn_ => Nat.not_le.2 hk_.2.2 hn_))); have n2_ := Aside0.mk (Kd.R_mono (ok' := fun k_ => some k_ ≠ (v322 : Value).ownBlock) ho0 (fun k_ hk_ => Or.elim hk_ (fun hs_ => fun e_ => (((HO323.out).1 k_ e_.symm).2) hs_) (fun hn_ => (Kd.fresh' (Kd.R_lt (Kd.rz HO323)) k_ hn_)))); have n3_ := Aside0.mk (hb); clear BK308; clear HO323; clear HB; clear HO317; have BK308 := n0_; have HO323 := n1_; have HO320 := n2_; have HB := n3_; clear n0_ n1_ n2_ n3_
            (try clear hb)
            (try clear hkp)
            (try clear ho0)
            refine hK.out _ _ ⟨cz BK308.out 0 rfl, cz BK308.out 1 rfl, cz BK308.out 2 rfl, cz BK308.out 3 rfl, cz BK308.out 4 rfl, cz BK308.out 5 rfl, cz BK308.out 6 rfl, cz BK308.out 7 rfl, cz BK308.out 8 rfl, cz BK308.out 9 rfl⟩ (fun hHeld => ?_); clear hK K; refine nz 64 ?_; exact norm_ (by simp only [putAll, Act.put, List.setIfInBounds_toArray, List.set_cons_zero, List.set_cons_succ]) (hCont (v319, v322) _ ⟨hHeld, (Kd.rz HO320), (Kd.rz HO323), (kz BK308), (bz HB)⟩)
          rintro ⟨v319, v322⟩ w40 ⟨hS_, h0_, h1_, h2_, h3_⟩; have n0_ : Aside0 (Kd.R (Kd.int .u8) 5 w40 w.heap.size (fun k_ => some k_ ≠ (v322 : Value).ownBlock) v319 t318) := ⟨h0_⟩
          have n1_ : Aside0 (Kd.R (Kd.int .u8) 5 w40 w.heap.size (fun k_ => some k_ ≠ (v319 : Value).ownBlock) v322 y321) := ⟨h1_⟩
          have n2_ : Aside0 (w40.heap[gb308]? = some (.cells #[.int .u8 a0_0, .int .u8 a0_1, .int .u8 a0_2, .int .u16 a0_3, .int .u8 a0_4, .int .u16 a0_5, .int .u32 a0_6, .int .u32 a0_7, .slice A0_8 l0_8.length c0_8, .slice A0_9 l0_9.length c0_9] 73 (0, 0))) := ⟨h2_⟩
          have n3_ : Aside0 (Below w.heap.size w w40) := ⟨h3_⟩
          clear HO317; clear BK308; clear HB; clear h0_ h1_ h2_ h3_; have HO320 := n0_; have HO323 := n1_; have BK308 := n2_; have HB := n3_; clear n0_ n1_ n2_ n3_; have hHeld : w40.cell? ⟨gb308, 0, none⟩ = some (.int .u8 a0_0) /\ w40.cell? ⟨gb308, 1, none⟩ = some (.int .u8 a0_1) /\ w40.cell? ⟨gb308, 2, none⟩ = some (.int .u8 a0_2) /\ w40.cell? ⟨gb308, 3, none⟩ = some (.int .u16 a0_3) /\ w40.cell? ⟨gb308, 4, none⟩ = some (.int .u8 a0_4) /\ w40.cell? ⟨gb308, 5, none⟩ = some (.int .u16 a0_5) /\ w40.cell? ⟨gb308, 6, none⟩ = some (.int .u32 a0_6) /\ w40.cell? ⟨gb308, 7, none⟩ = some (.int .u32 a0_7) /\ w40.cell? ⟨gb308, 8, none⟩ = some (.slice A0_8 l0_8.length c0_8) /\ w40.cell? ⟨gb308, 9, none⟩ = some (.slice A0_9 l0_9.length c0_9) := hS_; obtain ⟨Ao42, co42, eo42⟩ := Kd.R_slice HO323.out
          (first | subst eo42 | (injection eo42 with f1_ f2_ f3_; have f4_ := f1_.symm; have f5_ := f3_.symm; clear f1_ f2_ f3_; subst f4_; subst f5_))
          refine norm_ (a' := ?_) ?_ ?_
          rotate_left
          ·simp only [putAll, Act.put, List.setIfInBounds_toArray, List.set_cons_zero, List.set_cons_succ]
           rfl
          refine oz 14 (some 70) HT_ (fun K hK => ?_); refine Kd.R_append_rows_step (Kd.int .u8) (w0 := w) w.heap.size (by rfl) (.tmp 64) (.tmp 69) 23 5 (.int .u8 0) 1 rfl Try.underlying23 info5 rfl (by decide) (by omega) v319 t318 y321 _ _ _ (fun k_ => some k_ ≠ (.slice Ao42 y321.length co42 : Value).ownBlock) (fun _ => False) rfl rfl ?aO ?aR (fun _ _ h => h) (fun _ h => h.elim) ?aF ?aB ?aS ?aL ?_
          (case aR => repeat (first | exact (Kd.R_reads' HO323.out).2.2 | (with_reducible refine Kd.C_alloc ?_ _) | (with_reducible refine Kd.C_drewN ?_ _) | (with_reducible refine Kd.C_drew ?_)))
          (case aB => exact bz HB)
          (case aF => exact (fun k_ hk => Kd.fresh' (Kd.R_lt (Kd.rz HO323)) k_ hk))
          (case aO => exact (Kd.rz HO320))
          (case aS => exact (below_size (bz HB)))
          (case aL => have := LMc17.out; omega)
          intro v325 w41 ho hb hg hat; rw [<- Ny324.out] at ho
          have n0_ := Aside0.mk (blk_grown (kz BK308) hg (Kd.R_ne HO320.out BK308.out (by decide))); have n1_ := Aside0.mk (Kd.R_after (ok := (fun _ => True)) (by (with_reducible repeat (first | apply Kd.R_alloc | apply Kd.R_drewN | apply Kd.R_drew)); exact Kd.R_mono HO323.out (fun _ hk => ⟨trivial, hk⟩)) hg hat); have n2_ := Aside0.mk (hb); have n3_ := Aside0.mk (ho); clear BK308; clear HO323; clear HB; clear HO320; have BK308 := n0_; have HO323 := n1_; have HB := n2_; have HO326 := n3_; clear n0_ n1_ n2_ n3_; clear ho hb hg hat; refine hK.out _ _ ⟨cz BK308.out 0 rfl, cz BK308.out 1 rfl, cz BK308.out 2 rfl, cz BK308.out 3 rfl, cz BK308.out 4 rfl, cz BK308.out 5 rfl, cz BK308.out 6 rfl, cz BK308.out 7 rfl, cz BK308.out 8 rfl, cz BK308.out 9 rfl⟩ (fun hHeld => ?_); clear hK K; refine nz 70 ?_; refine pz 15 5 HT_ ?_; refine dz HT_ ?_
          try go_wp2
          have n0_ := Aside0.mk (Kd.R_drew HO323.out); have n1_ := Aside0.mk (Kd.R_drew HO326.out); have n2_ := Aside0.mk (blk_drew BK308.out); have n3_ := Aside0.mk (below_drew1 HB.out); clear HO323; clear HO326; clear BK308; clear HB; have HO323 := n0_; have HO326 := n1_; have BK308 := n2_; have HB := n3_; clear n0_ n1_ n2_ n3_; obtain ⟨Ao44, co44, eo44⟩ := Kd.R_slice HO326.out
          (first | subst eo44 | (injection eo44 with f1_ f2_ f3_; have f4_ := f1_.symm; have f5_ := f3_.symm; clear f1_ f2_ f3_; subst f4_; subst f5_))
          refine start_ (n := 11) (S := fun w' => w'.cell? ⟨gb308, 0, none⟩ = some (.int .u8 a0_0) /\ w'.cell? ⟨gb308, 1, none⟩ = some (.int .u8 a0_1) /\ w'.cell? ⟨gb308, 2, none⟩ = some (.int .u8 a0_2) /\ w'.cell? ⟨gb308, 3, none⟩ = some (.int .u16 a0_3) /\ w'.cell? ⟨gb308, 4, none⟩ = some (.int .u8 a0_4) /\ w'.cell? ⟨gb308, 5, none⟩ = some (.int .u16 a0_5) /\ w'.cell? ⟨gb308, 6, none⟩ = some (.int .u32 a0_6) /\ w'.cell? ⟨gb308, 7, none⟩ = some (.int .u32 a0_7) /\ w'.cell? ⟨gb308, 8, none⟩ = some (.slice A0_8 l0_8.length c0_8) /\ w'.cell? ⟨gb308, 9, none⟩ = some (.slice A0_9 l0_9.length c0_9)) (ds := []) #[false, false, false, false, false, false, false, false, false, false, false] (by kernel_rfl) rfl rfl ⟨cz BK308.out 0 rfl, cz BK308.out 1 rfl, cz BK308.out 2 rfl, cz BK308.out 3 rfl, cz BK308.out 4 rfl, cz BK308.out 5 rfl, cz BK308.out 6 rfl, cz BK308.out 7 rfl, cz BK308.out 8 rfl, cz BK308.out 9 rfl⟩ (fun hHeld => ?_); refine with_tabW lychref1_IpBytes.tab9 lychref1_IpBytes.bits9 (fun HT_ HW_ => ?_)
          generalize w41.drew = w43 at HO323 HO326 BK308 HB hHeld |-
          refine pz 0 71 HT_ ?_; refine pz 1 72 HT_ ?_; refine pz 4 75 HT_ ?_; refine pz 7 78 HT_ ?_; refine take_ (i := 2) (N := some 73) (v := ?_) (a' := ?_) #[true, true, true, false, true, false, false, true, false, false, false] rfl rfl (take_ofW HT_.out HW_.out (by kernel_rfl)) (fun _ _ _ h => h) (Or.inl ⟨by rfl, ?_⟩) hHeld ?_ ?_
          rotate_left
          ·rintro w' ⟨s0, s1, s2, s3, s4, s5, s6, s7, s8, s9⟩
           go_simp
           with_reducible rfl
          rotate_left
          ·simp only [ps_]
           rfl
          refine take_ (i := 5) (N := some 76) (v := ?_) (a' := ?_) #[true, true, true, false, true, true, false, true, false, false, false] rfl rfl (take_ofW HT_.out HW_.out (by kernel_rfl)) (fun _ _ _ h => h) (Or.inl ⟨by rfl, ?_⟩) hHeld ?_ ?_
          rotate_left
          ·rintro w' ⟨s0, s1, s2, s3, s4, s5, s6, s7, s8, s9⟩
           go_simp
           with_reducible rfl
          rotate_left
          ·simp only [ps_]
           rfl
          refine take_ (i := 8) (N := some 79) (v := ?_) (a' := ?_) #[true, true, true, false, true, true, false, true, true, false, false] rfl rfl (take_ofW HT_.out HW_.out (by kernel_rfl)) (fun _ _ _ h => h) (Or.inl ⟨by rfl, ?_⟩) hHeld ?_ ?_
          rotate_left
          ·rintro w' ⟨s0, s1, s2, s3, s4, s5, s6, s7, s8, s9⟩
           go_simp
           with_reducible rfl
          rotate_left
          ·simp only [ps_]
           rfl
          refine oz 3 (some 74) HT_ (fun K hK => ?_); refine gG Try.func84 #[.slice Ao44 y324.length co44, .int .u32 a0_6] ?_
          with_reducible refine (lychref1_Put32.calls (fun k_ => some k_ = (.slice Ao44 y324.length co44 : Value).ownBlock) (.slice Ao44 y324.length co44) y324 a0_6 t327 w _ ?side1 ?side2 A18.out).mono ?_
          (case side1 => exact bz HB)
          (case side2 => exact Kd.R_tight rfl HO326.out)
          rintro e w45 ⟨v328, rfl, ho0, hb, hkp⟩; refine ⟨_, rfl, ?_⟩; have n0_ := Aside0.mk (blk_kept (kz BK308) hkp (fun hs_ => (fun e_ => (Kd.R_ne HO326.out BK308.out (by decide)) e_) hs_)); have n1_ := Aside0.mk (Kd.R_mono (ok' := fun k_ => some k_ ≠ (v328 : Value).ownBlock) (Kd.R_keptB (HO323.out) hkp (fun k_ hk_ hs_ => (hk_.2) hs_)) (fun k_ hk_ => fun e_ => Or.elim (ho0.1 k_ e_.symm) (fun hs_ => hk_.2.1 hs_) (fun hn_ => Nat.not_le.2 hk_.2.2 hn_))); have n2_ := Aside0.mk (Kd.R_mono (ok' := fun k_ => some k_ ≠ (.slice Ao42 y321.length co42 : Value).ownBlock) ho0 (fun k_ hk_ => Or.elim hk_ (fun hs_ => fun e_ => (((HO323.out).1 k_ e_.symm).2) hs_) (fun hn_ => (Kd.fresh' (Kd.R_lt (Kd.rz HO323)) k_ hn_)))); have n3_ := Aside0.mk (hb); clear BK308; clear HO323; clear HB; clear HO326; have BK308 := n0_; have HO323 := n1_; have HO329 := n2_; have HB := n3_; clear n0_ n1_ n2_ n3_
          (try clear hb)
          (try clear hkp)
          (try clear ho0)
          obtain ⟨Ao46, co46, eo46⟩ := Kd.R_slice HO329.out
          (first | subst eo46 | (injection eo46 with f1_ f2_ f3_; have f4_ := f1_.symm; have f5_ := f3_.symm; clear f1_ f2_ f3_; subst f4_; subst f5_))
          refine hK.out _ _ ⟨cz BK308.out 0 rfl, cz BK308.out 1 rfl, cz BK308.out 2 rfl, cz BK308.out 3 rfl, cz BK308.out 4 rfl, cz BK308.out 5 rfl, cz BK308.out 6 rfl, cz BK308.out 7 rfl, cz BK308.out 8 rfl, cz BK308.out 9 rfl⟩ (fun hHeld => ?_); clear hK K; refine nz 74 ?_; refine oz 6 (some 77) HT_ (fun K hK => ?_); refine gG Try.func84 #[.slice Ao46 t327.length co46, .int .u32 a0_7] ?_
          with_reducible refine (lychref1_Put32.calls (fun k_ => some k_ = (.slice Ao46 t327.length co46 : Value).ownBlock) (.slice Ao46 t327.length co46) t327 a0_7 t330 w _ ?side1 ?side2 A19.out).mono ?_
          (case side1 => exact bz HB)
          (case side2 => exact Kd.R_tight rfl HO329.out)
          rintro e w47 ⟨v331, rfl, ho0, hb, hkp⟩; refine ⟨_, rfl, ?_⟩; have n0_ := Aside0.mk (blk_kept (kz BK308) hkp (fun hs_ => (fun e_ => (Kd.R_ne HO329.out BK308.out (by decide)) e_) hs_)); have n1_ := Aside0.mk (Kd.R_mono (ok' := fun k_ => some k_ ≠ (v331 : Value).ownBlock) (Kd.R_keptB (HO323.out) hkp (fun k_ hk_ hs_ => (hk_) hs_)) (fun k_ hk_ => fun e_ => Or.elim (ho0.1 k_ e_.symm) (fun hs_ => hk_.2.1 hs_) (fun hn_ => Nat.not_le.2 hk_.2.2 hn_))); have n2_ := Aside0.mk (Kd.R_mono (ok' := fun k_ => some k_ ≠ (.slice Ao42 y321.length co42 : Value).ownBlock) ho0 (fun k_ hk_ => Or.elim hk_ (fun hs_ => fun e_ => (((HO323.out).1 k_ e_.symm)) hs_) (fun hn_ => (Kd.fresh' (Kd.R_lt (Kd.rz HO323)) k_ hn_)))); have n3_ := Aside0.mk (hb); clear BK308; clear HO323; clear HB; clear HO329; have BK308 := n0_; have HO323 := n1_; have HO332 := n2_; have HB := n3_; clear n0_ n1_ n2_ n3_
          (try clear hb)
          (try clear hkp)
          (try clear ho0)
          refine hK.out _ _ ⟨cz BK308.out 0 rfl, cz BK308.out 1 rfl, cz BK308.out 2 rfl, cz BK308.out 3 rfl, cz BK308.out 4 rfl, cz BK308.out 5 rfl, cz BK308.out 6 rfl, cz BK308.out 7 rfl, cz BK308.out 8 rfl, cz BK308.out 9 rfl⟩ (fun hHeld => ?_); clear hK K; refine nz 77 ?_; refine oz 9 (some 80) HT_ (fun K hK => ?_); refine Kd.R_append_rows_step (Kd.int .u8) (w0 := w) w.heap.size (by rfl) (.tmp 77) (.tmp 79) 23 5 (.int .u8 0) 1 rfl Try.underlying23 info5 rfl (by decide) (by omega) v331 t330 l0_8 _ _ _ (fun k_ => some k_ ≠ (.slice Ao42 y321.length co42 : Value).ownBlock) (fun _ => False) rfl rfl ?aO ?aR (fun _ _ h => h) (fun _ h => h.elim) ?aF ?aB ?aS ?aL ?_
          (case aR => exact Kd.C_below HR0_8.out (bz HB))
          (case aB => exact bz HB)
          (case aF => exact (fun k_ hk => Kd.fresh' (Kd.R_lt (Kd.rz HO323)) k_ hk))
          (case aO => exact (Kd.rz HO332))
          (case aS => exact (below_size (bz HB)))
          (case aL => have := LMc20.out; omega)
          intro v334 w48 ho hb hg hat; rw [<- Ny333.out] at ho
          have n0_ := Aside0.mk (blk_grown (kz BK308) hg (Kd.R_ne HO332.out BK308.out (by decide))); have n1_ := Aside0.mk (Kd.R_after (ok := (fun _ => True)) (by (with_reducible repeat (first | apply Kd.R_alloc | apply Kd.R_drewN | apply Kd.R_drew)); exact Kd.R_mono HO323.out (fun _ hk => ⟨trivial, hk⟩)) hg hat); have n2_ := Aside0.mk (hb); have n3_ := Aside0.mk (ho); clear BK308; clear HO323; clear HB; clear HO332; have BK308 := n0_; have HO323 := n1_; have HB := n2_; have HO335 := n3_; clear n0_ n1_ n2_ n3_; clear ho hb hg hat; refine hK.out _ _ ⟨cz BK308.out 0 rfl, cz BK308.out 1 rfl, cz BK308.out 2 rfl, cz BK308.out 3 rfl, cz BK308.out 4 rfl, cz BK308.out 5 rfl, cz BK308.out 6 rfl, cz BK308.out 7 rfl, cz BK308.out 8 rfl, cz BK308.out 9 rfl⟩ (fun hHeld => ?_); clear hK K; refine nz 80 ?_; refine pz 10 5 HT_ ?_; refine dz HT_ ?_; obtain ⟨Ao49, co49, eo49⟩ := Kd.R_slice HO335.out
          subst eo49
          try go_wp2_with (first | ((with_reducible refine gate_callee (f := 85) rfl ?_); refine gL 82 Try.func85 #[.slice Ao49 y333.length co49] ?_; (with_reducible refine (lychref1_Of.calls kj1 _ _ y333 t336 _ ?side1 ?side2 A21.out).mono ?_); (case side1 => repeat (first | exact (Kd.R_reads' HO335.out).2.2 | (with_reducible refine Kd.C_alloc ?_ _) | (with_reducible refine Kd.C_drewN ?_ _) | (with_reducible refine Kd.C_drew ?_))); (case side2 => exact (Kd.R_reads' HO335.out).2.1); rintro e w50 ⟨rfl, hb⟩; refine ⟨_, rfl, ?_⟩; have n0_ := Aside0.mk (Kd.R_below (Kd.rz HO323) hb); have n1_ := Aside0.mk (Kd.R_below (Kd.rz HO335) hb); have n2_ := Aside0.mk (blk_below (kz BK308) hb); have n3_ := Aside0.mk (below_step (bz HB) hb); clear HO323; clear HO335; clear BK308; clear HB; have HO323 := n0_; have HO335 := n1_; have BK308 := n2_; have HB := n3_; clear n0_ n1_ n2_ n3_; (try clear hb); (try clear hb2); (try clear hk); (try clear hi); have p23 : 0 <= (10 : Int) := (by omega); have q23 : (10 : Int) < ((y333.length : Int) : Int) := odt; have qi23 : (10 < y333.length) = True := eq_true (by omega); obtain ⟨go23, co23, eo23, gb23, gl23, cl23, HG23⟩ := Kd.R_form HO335.out (by omega); (first | cases eo23 | (injection eo23 with ea_ en_ ec_; (first | subst ea_ | (injection ea_ with ea_; subst ea_)); subst ec_; clear en_)); have GB23 := Aside0.mk gb23; have GG23 := Aside0.mk HG23; clear gb23 gl23 HG23; obtain ⟨hx23_0, hf23_0⟩ := Kd.R_celln 0 HO335.out (10 : Int) p23 q23; (try rw [show ((10 : Int)).toNat = 10 from rfl] at hx23_0); (try simp only [Nat.reduceMul, Nat.zero_mul, Nat.zero_add, Nat.reduceAdd] at hx23_0); (try rw [show ((10 : Int)).toNat = 10 from rfl] at hf23_0); (try simp only [Nat.reduceMul, Nat.zero_mul, Nat.zero_add, Nat.reduceAdd] at hf23_0); replace p23 := eq_true p23; replace q23 := eq_true q23; obtain ⟨hy51_, hz51_⟩ := Kd.R_celln 0 HO335.out (10 : Int) (by omega) odt; (try simp only [Int.reduceToNat, Int.toNat_zero, Int.toNat_ofNat, Nat.reduceMul, Nat.zero_mul, Nat.zero_add] at hy51_ hz51_); (try rw [show ((10 : Int)).toNat = 10 from rfl] at hy51_); (try rw [show ((10 : Int)).toNat = 10 from rfl] at hz51_); have HP51 := Kd.R_putg HO335.out (10 : Int) ((t336 / 256) % 256)) | ((with_reducible refine gate_store (t := 5) (p := 90) rfl ?_); refine store_event (t := 5) (p := 90) (v := ?vo_w52) (w1 := (w50.setCell ⟨go23, (10 : Int).toNat, none⟩ (.int .u8 ((t336 / 256) % 256)))) ?hg ?ho ?hn ?hr ?_; (case ho => rfl); (case hg => rfl); (case hn => rfl); (case hr => first | (go_simp; done) | (go_simp; rfl)); intro w52 hw; have hg : w50.grownBy w52 (some go23) := (by rw [hw]; exact HP51.2); have hp_ : Kd.R (Kd.int .u8) 5 w52 w.heap.size (fun k_ => some k_ ≠ (.slice Ao42 y321.length co42 : Value).ownBlock) (.slice (some ⟨go23, 0, none⟩) y333.length co49) y337 := (by rw [hw, Ny337.out]; exact HP51.1); clear HP51; have n0_ := Aside0.mk (blk_grown (kz BK308) hg (Kd.R_ne HO335.out BK308.out (by decide))); have n1_ := Aside0.mk (Kd.R_after (v := (.slice (some ⟨go23, 0, none⟩) y333.length co49)) (v1 := (.slice (some ⟨go23, 0, none⟩) y333.length co49)) (ok := (fun _ => True)) (Kd.rz HO323) hg (.inl rfl)); have n2_ := Aside0.mk (hp_); have n3_ := Aside0.mk ((by rw [hw]; exact below_set (HB.out) GB23.out : Below w.heap.size w w52)); clear BK308; clear HO323; clear HO335; clear HB; have BK308 := n0_; have HO323 := n1_; have HO335 := n2_; have HB := n3_; clear n0_ n1_ n2_ n3_; clear hg hw hp_; have p25 : 0 <= (11 : Int) := (by omega); have q25 : (11 : Int) < ((y333.length : Int) : Int) := odt; have qi25 : (11 < y333.length) = True := eq_true (by omega); obtain ⟨hx25_0, hf25_0⟩ := Kd.R_celln 0 HO335.out (11 : Int) p25 q25; (try rw [show ((11 : Int)).toNat = 11 from rfl] at hx25_0); (try simp only [Nat.reduceMul, Nat.zero_mul, Nat.zero_add, Nat.reduceAdd] at hx25_0); (try rw [show ((11 : Int)).toNat = 11 from rfl] at hf25_0); (try simp only [Nat.reduceMul, Nat.zero_mul, Nat.zero_add, Nat.reduceAdd] at hf25_0); replace p25 := eq_true p25; replace q25 := eq_true q25; obtain ⟨hy53_, hz53_⟩ := Kd.R_celln 0 HO335.out (11 : Int) (by omega) odt; (try simp only [Int.reduceToNat, Int.toNat_zero, Int.toNat_ofNat, Nat.reduceMul, Nat.zero_mul, Nat.zero_add] at hy53_ hz53_); (try rw [show ((11 : Int)).toNat = 11 from rfl] at hy53_); (try rw [show ((11 : Int)).toNat = 11 from rfl] at hz53_); have HP53 := Kd.R_putg HO335.out (11 : Int) ((t336) % 256)) | ((with_reducible refine gate_store (t := 5) (p := 91) rfl ?_); refine store_event (t := 5) (p := 91) (v := ?vo_w54) (w1 := (w52.setCell ⟨go23, (11 : Int).toNat, none⟩ (.int .u8 ((t336) % 256)))) ?hg ?ho ?hn ?hr ?_; (case ho => rfl); (case hg => rfl); (case hn => rfl); (case hr => first | (go_simp; done) | (go_simp; rfl)); intro w54 hw; have hg : w52.grownBy w54 (some go23) := (by rw [hw]; exact HP53.2); have hp_ : Kd.R (Kd.int .u8) 5 w54 w.heap.size (fun k_ => some k_ ≠ (.slice Ao42 y321.length co42 : Value).ownBlock) (.slice (some ⟨go23, 0, none⟩) y333.length co49) y338 := (by rw [hw, Ny338.out]; exact HP53.1); clear HP53; have n0_ := Aside0.mk (blk_grown (kz BK308) hg (Kd.R_ne HO335.out BK308.out (by decide))); have n1_ := Aside0.mk (Kd.R_after (v := (.slice (some ⟨go23, 0, none⟩) y333.length co49)) (v1 := (.slice (some ⟨go23, 0, none⟩) y333.length co49)) (ok := (fun _ => True)) (Kd.rz HO323) hg (.inl rfl)); have n2_ := Aside0.mk (hp_); have n3_ := Aside0.mk ((by rw [hw]; exact below_set (HB.out) GB23.out : Below w.heap.size w w54)); clear BK308; clear HO323; clear HO335; clear HB; have BK308 := n0_; have HO323 := n1_; have HO335 := n2_; have HB := n3_; clear n0_ n1_ n2_ n3_; clear hg hw hp_; have hcz55_0 : w54.cell? ⟨gb308, 0, none⟩ = some (.int .u8 a0_0) := cz BK308.out 0 rfl; have hcz55_1 : w54.cell? ⟨gb308, 1, none⟩ = some (.int .u8 a0_1) := cz BK308.out 1 rfl; have hcz55_2 : w54.cell? ⟨gb308, 2, none⟩ = some (.int .u8 a0_2) := cz BK308.out 2 rfl; have hcz55_3 : w54.cell? ⟨gb308, 3, none⟩ = some (.int .u16 a0_3) := cz BK308.out 3 rfl; have hcz55_4 : w54.cell? ⟨gb308, 4, none⟩ = some (.int .u8 a0_4) := cz BK308.out 4 rfl; have hcz55_5 : w54.cell? ⟨gb308, 5, none⟩ = some (.int .u16 a0_5) := cz BK308.out 5 rfl; have hcz55_6 : w54.cell? ⟨gb308, 6, none⟩ = some (.int .u32 a0_6) := cz BK308.out 6 rfl; have hcz55_7 : w54.cell? ⟨gb308, 7, none⟩ = some (.int .u32 a0_7) := cz BK308.out 7 rfl; have hcz55_8 : w54.cell? ⟨gb308, 8, none⟩ = some (.slice A0_8 l0_8.length c0_8) := cz BK308.out 8 rfl; have hcz55_9 : w54.cell? ⟨gb308, 9, none⟩ = some (.slice A0_9 l0_9.length c0_9) := cz BK308.out 9 rfl; have hfz55_0 := blk_frozen BK308.out 0; have hfz55_1 := blk_frozen BK308.out 1; have hfz55_2 := blk_frozen BK308.out 2; have hfz55_3 := blk_frozen BK308.out 3; have hfz55_4 := blk_frozen BK308.out 4; have hfz55_5 := blk_frozen BK308.out 5; have hfz55_6 := blk_frozen BK308.out 6; have hfz55_7 := blk_frozen BK308.out 7; have hfz55_8 := blk_frozen BK308.out 8; have hfz55_9 := blk_frozen BK308.out 9) | ((with_reducible refine gate_builtin (b := .append) (xs := #[.tmp 92, .tmp 94]) rfl ?_); (try (refine gate_guard (by rfl) ?_; dsimp only)); at_builtin; refine Kd.R_append_rows (Kd.int .u8) (w0 := w) w.heap.size rfl (.tmp 92) (.tmp 94) 23 5 (.int .u8 0) 1 rfl Try.underlying23 info5 rfl (by decide) (by omega) (.slice (some ⟨go23, 0, none⟩) y333.length co49) y338 l0_9 _ _ _ (fun k_ => some k_ ≠ (.slice Ao42 y321.length co42 : Value).ownBlock) (fun _ => False) rfl rfl ?aO ?aR (fun _ _ h => h) (fun _ h => h.elim) ?aF ?aB ?aS ?aL ?_; (case aR => exact Kd.C_below HR0_9.out (bz HB)); (case aB => exact bz HB); (case aF => exact (fun k_ hk => Kd.fresh' (Kd.R_lt (Kd.rz HO323)) k_ hk)); (case aO => exact (Kd.rz HO335)); (case aS => exact (below_size (bz HB))); (case aL => have := LMc26.out; omega); intro v340 w56 ho hb hg hat; rw [<- Ny339.out] at ho; have n0_ := Aside0.mk (blk_grown (kz BK308) hg (Kd.R_ne HO335.out BK308.out (by decide))); have n1_ := Aside0.mk (Kd.R_after (ok := (fun _ => True)) (Kd.rz HO323) hg hat); have n2_ := Aside0.mk (hb); have n3_ := Aside0.mk (ho); clear BK308; clear HO323; clear HB; clear HO335; have BK308 := n0_; have HO323 := n1_; have HB := n2_; have HO341 := n3_; clear n0_ n1_ n2_ n3_; clear ho hb hg hat))
          go_ret2
          exact ⟨_, by first | rfl | (simp [errW_none, errW_some] <;> rfl) | (simp [*, errW_none, errW_some] <;> rfl), by (with_reducible repeat (first | apply Kd.R_alloc | apply Kd.R_drewN | apply Kd.R_drew)); exact Kd.R_mono HO341.out (fun _ hk => trivial), bz HB⟩
         ·rw [if_neg c26] at H
          exact absurd H (by simp)
        ·rw [if_neg c24] at H
         exact absurd H (by simp)
       ·rw [if_neg c22] at H
        exact absurd H (by simp)
      ·rw [if_neg c20] at H
       exact absurd H (by simp)
     ·rw [if_neg c17] at H
      exact absurd H (by simp)
def seat_packet.sw (p6 pr : Int) : Int × Int × Int × Int × List Int :=
 if p6.tmod 16 = 0 then (p6.tdiv 16 % 256 % 3, pr, 2, 0, [])
 else if p6.tmod 16 = 1 then (64, pr, 1, 0, [])
 else if p6.tmod 16 = 2 then (64, pr, 2, 5, [])
 else if p6.tmod 16 = 3 then (64, 47, 2, 0, [])
 else if p6.tmod 16 = 4 then (64, pr, 2, 0, [1, 1, 1, 1])
 else (64, pr, 2, 0, [])
def seat_packet.sd (k : Nat) (p1 p2 side n : Int) (s0 d0 : Int) : Option (Int × Int) :=
 if side = 0 then some (s0, d0) else (lychseat_outside.f k p1 (n % 256)).bind fun s => (lychseat_outside.f k ((5 + p2.tmod 3) % 256) (n % 256)).bind fun d => some (s, d)
def seat_packet.er (k : Nat) (pr s d fr tp p5 p7 p8 : Int) (x : List Int) : Option (Int × List Int) :=
 if p7.tmod 5 = 4 then (seat_body.f k pr d s tp fr p5 p8).bind fun y => (lychref1_IpBytes.f k 0 3 pr 0 0 0 d s [] y).bind fun q => (lychref1_IcmpSum.f k (rd [3, 11, 12] (p8.tmod 3)) 0 0 0 q.1).bind fun c => (lychref1_IcmpBytes.f (rd [3, 11, 12] (p8.tmod 3)) 0 c 0 q.1).bind fun m => some (1, m.1)
 else some (pr, x)
def seat_packet.sp (p8 p9 : Int) (b : List Int) : List Int :=
 if p9.tmod 8 = 7 then (if 0 < b.length then b.set (p9.tmod (b.length : Int)).toNat (Go.bits .xor .u8 (rd b (p9.tmod (b.length : Int))) (IntKind.u8.wrap (2 ^ (p8.tmod 8).toNat))) else b) else b
def seat_packet.f (k : Nat) (p0 p1 p2 p3 p4 p5 p6 p7 p8 p9 side n : Int) : Option (List Int) :=
 (lychseat_inside.f p1).bind fun s0 => (lychseat_outside.f k p2 (n % 256)).bind fun d0 => (seat_packet.sd k p1 p2 side n s0 d0).bind fun sd =>
 (lychseat_proto.f p0).bind fun pr => (lychseat_port.f p3).bind fun fr => (lychseat_port.f p4).bind fun tp => (seat_body.f k pr sd.1 sd.2 fr tp p5 p8).bind fun x =>
 (seat_packet.er k pr sd.1 sd.2 fr tp p5 p7 p8 x).bind fun px =>
 (lychref1_IpBytes.f k 0 (seat_packet.sw p6 px.1).1 (seat_packet.sw p6 px.1).2.1 (IntKind.u16.wrap p8) (seat_packet.sw p6 px.1).2.2.1 (seat_packet.sw p6 px.1).2.2.2.1 sd.1 sd.2 (seat_packet.sw p6 px.1).2.2.2.2 px.2).bind fun b => some (seat_packet.sp p8 p9 b.1)
theorem rw_quiet {K : Act -> World -> Prop} {Q : Exit -> Act -> World -> Prop} {e : Exit} {a : Act} {w : World} {n : Nat} (h : ∀ W, Below w.heap.size w W -> Exit.then K Q e a W) : Exit.then K Q e a (w.drewN n) := h _ (pw_below_drewN (Below.refl _ _) n)
theorem rw_rd3 {w : World} {g : Nat} (h : w.heap[g]? = some (.cells #[.int .u8 3, .int .u8 11, .int .u8 12] 5 (0, 0))) (i : Int) (h0 : 0 <= i) (h1 : i < 3) : w.cell? ⟨g, i.toNat, none⟩ = some (.int .u8 (rd [3, 11, 12] i)) := by
 obtain rfl | rfl | rfl : i = 0 \/ i = 1 \/ i = 2 := by omega
 all_goals exact (blk_cell h _).trans rfl
def seat_packet.R28.T : Bool × List (List Nat × List Nat) := (true, [([], []), ([], []), ([1], [1]), ([2], [2]), ([], []), ([4], [4]), ([3, 5], [3, 5]), ([0, 6], [0, 6]), ([7], [7]), ([], []), ([9], [9]), ([10], [10]), ([11], [11]), ([8, 12], [8, 12]), ([0, 6, 0, 1, 2, 3, 4, 5, 6, 7, 8, 9, 10, 11, 12, 13], [0, 6]), ([14, 13, 0, 1, 2, 3, 4, 5, 6, 7, 8, 9, 10, 11, 12, 13], [13, 14])])
theorem seat_packet.R28.tab : rtab .any (opsOf Try.f17 28) = seat_packet.R28.T := by kernel_rfl
theorem seat_packet.R28.bits : waitsOk seat_packet.R28.T.2 [0, 0, 2, 6, 0, 16, 62, 127, 255, 0, 512, 1536, 3584, 8191, 16383, 32767] = true := by kernel_rfl
theorem seat_packet.calls (k : Nat) (p0 p1 p2 p3 p4 p5 p6 p7 p8 p9 side n : Int) (r : List Int) (w : World) (hn : (0 <= p8 /\ p8 <= 255) /\ (0 <= p9 /\ p9 <= 255)) (h : seat_packet.f k p0 p1 p2 p3 p4 p5 p6 p7 p8 p9 side n = some r) :
  Calls Try.prog 17 #[.agg #[.int .u8 p0, .int .u8 p1, .int .u8 p2, .int .u8 p3, .int .u8 p4, .int .u8 p5, .int .u8 p6, .int .u8 p7, .int .u8 p8, .int .u8 p9], .int .i64 side, .int .i64 n] w fun e w' => ∃ v0_ : Value, e = .returned v0_ /\ Kd.R (Kd.int .u8) 5 w' w.heap.size (fun _ => True) v0_ r /\ Below w.heap.size w w' := by
 have hu25 := Try.underlying25; have hu73 := Try.underlying73; have hu101 := Try.underlying101; have HB := Aside0.mk (Below.refl w.heap.size w); have HI25 : Aside0 ((Try.prog.info? 25).map (·.size) = some 10) := ⟨by kernel_rfl⟩
 have HI73 : Aside0 ((Try.prog.info? 73).map (·.size) = some 10) := ⟨by kernel_rfl⟩
 have HI101 : Aside0 ((Try.prog.info? 101).map (·.size) = some 5) := ⟨by kernel_rfl⟩
 have HN := Aside0.mk hn; have H : seat_packet.f k p0 p1 p2 p3 p4 p5 p6 p7 p8 p9 side n = some r := h; clear h hn; unfold seat_packet.f at H
 obtain ⟨s0, hs0, H⟩ := rw_bind H; obtain ⟨d0, hd0, H⟩ := rw_bind H; obtain ⟨⟨src, dst⟩, hsd, H⟩ := rw_bind H; obtain ⟨pr, hpr, H⟩ := rw_bind H; obtain ⟨fr, hfr, H⟩ := rw_bind H; obtain ⟨tp, htp, H⟩ := rw_bind H; obtain ⟨x, hx, H⟩ := rw_bind H; obtain ⟨⟨pr2, x2⟩, her, H⟩ := rw_bind H; obtain ⟨⟨b, be⟩, hbb, H⟩ := rw_bind H; obtain rfl := Option.some.inj H; dsimp only at hx her hbb |-
 obtain ⟨⟨ttl, pr3, fl2, of2, op⟩, hsw⟩ : ∃ x, x = seat_packet.sw p6 pr2 := ⟨_, rfl⟩
 rw [<- hsw] at hbb
 dsimp only at hbb
 have HSW := Aside0.mk hsw.symm; clear hsw; have Q1 : Aside0 (∀ W : World, Calls Try.prog 49 #[.int .u8 p1] W fun e w' => e = .returned (.int .u32 s0) /\ Drawn0 W w') := ⟨fun W => lychseat_inside.calls p1 s0 W hs0⟩
 have Q2 : Aside0 (∀ W : World, Calls Try.prog 50 #[.int .u8 p2, .int .u8 (n % 256)] W fun e w' => e = .returned (.int .u32 d0) /\ Drawn0 W w') := ⟨fun W => lychseat_outside.calls k p2 (n % 256) d0 W hd0⟩
 have Q5 : Aside0 (∀ W : World, Calls Try.prog 52 #[.int .u8 p3] W fun e w' => e = .returned (.int .u16 fr) /\ Drawn0 W w') := ⟨fun W => lychseat_port.calls p3 fr W hfr⟩
 have Q6 : Aside0 (∀ W : World, Calls Try.prog 52 #[.int .u8 p4] W fun e w' => e = .returned (.int .u16 tp) /\ Drawn0 W w') := ⟨fun W => lychseat_port.calls p4 tp W htp⟩
 have HSD := Aside0.mk hsd; have HPR := Aside0.mk hpr; have HX1 := Aside0.mk hx; have HER := Aside0.mk her; have HBB := Aside0.mk hbb; clear hs0 hd0 hsd hpr hfr htp hx her hbb H
 go_enter Try.func17, Try.ntmps17
 go_upto_region 1 with (((with_reducible refine gate_dst (N := 3) rfl ?_); refine Kd.event_run rfl (v := .pointer (some ⟨w.heap.size, 0, none⟩)) (w1 := w.alloc (.cells #[.int .u8 p0, .int .u8 p1, .int .u8 p2, .int .u8 p3, .int .u8 p4, .int .u8 p5, .int .u8 p6, .int .u8 p7, .int .u8 p8, .int .u8 p9] 25)) (by first | (go_simp; done) | (go_simp; rfl)) ?_))
 obtain ⟨gp, hgp⟩ : ∃ x_, x_ = w.heap.size := ⟨_, rfl⟩
 have HXp : Aside0 ((w.alloc (.cells #[.int .u8 p0, .int .u8 p1, .int .u8 p2, .int .u8 p3, .int .u8 p4, .int .u8 p5, .int .u8 p6, .int .u8 p7, .int .u8 p8, .int .u8 p9] 25)).heap[gp]? = some (.cells #[.int .u8 p0, .int .u8 p1, .int .u8 p2, .int .u8 p3, .int .u8 p4, .int .u8 p5, .int .u8 p6, .int .u8 p7, .int .u8 p8, .int .u8 p9] 25 (0, 0))) := ⟨by rw [hgp]; exact rw_blknew _ _⟩
 have GHXp := Aside0.mk (show w.heap.size <= gp by rw [hgp]; exact below_size HB.out); rw [<- hgp]; clear hgp; have hb_ := below_alloc (Below.refl w.heap.size w) (.cells #[.int .u8 p0, .int .u8 p1, .int .u8 p2, .int .u8 p3, .int .u8 p4, .int .u8 p5, .int .u8 p6, .int .u8 p7, .int .u8 p8, .int .u8 p9] 25); replace HB := mB HB hb_; clear hb_; generalize (w.alloc (.cells #[.int .u8 p0, .int .u8 p1, .int .u8 p2, .int .u8 p3, .int .u8 p4, .int .u8 p5, .int .u8 p6, .int .u8 p7, .int .u8 p8, .int .u8 p9] 25)) = w1 at HXp HB |-
 have gp_1 := cz HXp.out 1 rfl; have gp_2 := cz HXp.out 2 rfl
 go_wp2_with fail
 go_quiet ((first
  | (go_at_call 49; (with_reducible refine (Q1.out _).mono ?_); rintro e w' ⟨rfl, ⟨nd, rfl⟩⟩; exact ⟨rfl, _, rfl⟩)
  | (go_at_call 49; (with_reducible refine (Q1.out _).mono ?_); rintro e w' ⟨rfl, ⟨nd, rfl⟩⟩; exact ⟨rfl, _, World.drewN_drewN _ _ _⟩)
  | (go_at_call 49; (with_reducible refine (Q1.out _).mono ?_); rintro e w' ⟨rfl, ⟨nd, rfl⟩⟩; exact ⟨rfl, _, Eq.trans (World.drewN_drewN _ _ _) (congrArg (World.drewN _) (Nat.add_assoc _ _ _))⟩)
  | (go_at_call 50; (with_reducible refine (Q2.out _).mono ?_); rintro e w' ⟨rfl, ⟨nd, rfl⟩⟩; exact ⟨rfl, _, rfl⟩)
  | (go_at_call 50; (with_reducible refine (Q2.out _).mono ?_); rintro e w' ⟨rfl, ⟨nd, rfl⟩⟩; exact ⟨rfl, _, World.drewN_drewN _ _ _⟩)
  | (go_at_call 50; (with_reducible refine (Q2.out _).mono ?_); rintro e w' ⟨rfl, ⟨nd, rfl⟩⟩; exact ⟨rfl, _, Eq.trans (World.drewN_drewN _ _ _) (congrArg (World.drewN _) (Nat.add_assoc _ _ _))⟩)))
 refine rw_quiet ?_; intro w2 hb; have hb_ := hb; replace HB := mB HB hb_; replace HXp := mX HXp hb_; clear hb_; clear hb gp_1 gp_2
 go_upto_if 29 with (fail)
 go_cut [7, 8] from 30 to 41 (fun s7 s8 w' => s7 = .int .u32 src /\ s8 = .int .u32 dst /\ Aside0 (w'.heap[gp]? = some (.cells #[.int .u8 p0, .int .u8 p1, .int .u8 p2, .int .u8 p3, .int .u8 p4, .int .u8 p5, .int .u8 p6, .int .u8 p7, .int .u8 p8, .int .u8 p9] 25 (0, 0))) /\ Aside0 (Below w.heap.size w w'))
 case first =>
  by_cases gs : side = 0
  ·have gs1 : (side != 0) = false := by rw [bne, beq_iff_eq.2 gs]; rfl
   have gs2 : (side == 0) = true := beq_iff_eq.2 gs
   have hs : s0 = src /\ d0 = dst := by
    have h := HSD.out; unfold seat_packet.sd at h
    rw [if_pos gs] at h
    simp only [Option.some.injEq, Prod.mk.injEq] at h
    exact h
   obtain ⟨rfl, rfl⟩ := hs; clear gs
   go_wp2
   go_meet
   case rel => exact ⟨rfl, rfl, ⟨HXp.out⟩, ⟨HB.out⟩⟩
  ·have gs1 : (side != 0) = true := bne_iff_ne.2 gs
   have gs2 : (side == 0) = false := beq_eq_false_iff_ne.2 gs
   have hs : (lychseat_outside.f k p1 (n % 256)).bind (fun s => (lychseat_outside.f k ((5 + p2.tmod 3) % 256) (n % 256)).bind fun d => some (s, d)) = some (src, dst) := by
    have h := HSD.out; unfold seat_packet.sd at h
    rwa [if_neg gs] at h
   obtain ⟨sx, hsx, hs⟩ := rw_bind hs; obtain ⟨dx, hdx, hs⟩ := rw_bind hs; simp only [Option.some.injEq, Prod.mk.injEq] at hs
   obtain ⟨rfl, rfl⟩ := hs; have Q3 : Aside0 (∀ W : World, Calls Try.prog 50 #[.int .u8 p1, .int .u8 (n % 256)] W fun e w' => e = .returned (.int .u32 sx) /\ Drawn0 W w') := ⟨fun W => lychseat_outside.calls k p1 (n % 256) sx W hsx⟩
   have Q4 : Aside0 (∀ W : World, Calls Try.prog 50 #[.int .u8 ((5 + p2.tmod 3) % 256), .int .u8 (n % 256)] W fun e w' => e = .returned (.int .u32 dx) /\ Drawn0 W w') := ⟨fun W => lychseat_outside.calls k ((5 + p2.tmod 3) % 256) (n % 256) dx W hdx⟩
   clear gs hsx hdx
   (try dsimp only)
   have gp_1 := cz HXp.out 1 rfl; have gp_2 := cz HXp.out 2 rfl
   go_wp2_with fail
   go_quiet ((first
    | (go_at_call 50; (with_reducible refine (Q3.out _).mono ?_); rintro e w' ⟨rfl, ⟨nd, rfl⟩⟩; exact ⟨rfl, _, rfl⟩)
    | (go_at_call 50; (with_reducible refine (Q3.out _).mono ?_); rintro e w' ⟨rfl, ⟨nd, rfl⟩⟩; exact ⟨rfl, _, World.drewN_drewN _ _ _⟩)
    | (go_at_call 50; (with_reducible refine (Q3.out _).mono ?_); rintro e w' ⟨rfl, ⟨nd, rfl⟩⟩; exact ⟨rfl, _, Eq.trans (World.drewN_drewN _ _ _) (congrArg (World.drewN _) (Nat.add_assoc _ _ _))⟩)
    | (go_at_call 50; (with_reducible refine (Q4.out _).mono ?_); rintro e w' ⟨rfl, ⟨nd, rfl⟩⟩; exact ⟨rfl, _, rfl⟩)
    | (go_at_call 50; (with_reducible refine (Q4.out _).mono ?_); rintro e w' ⟨rfl, ⟨nd, rfl⟩⟩; exact ⟨rfl, _, World.drewN_drewN _ _ _⟩)
    | (go_at_call 50; (with_reducible refine (Q4.out _).mono ?_); rintro e w' ⟨rfl, ⟨nd, rfl⟩⟩; exact ⟨rfl, _, Eq.trans (World.drewN_drewN _ _ _) (congrArg (World.drewN _) (Nat.add_assoc _ _ _))⟩)))
   refine rw_quiet ?_; intro w3 hb; have hb_ := hb; replace HXp := mX HXp hb_; replace HB := mB HB hb_; clear hb_; clear hb gp_1 gp_2
   go_wp2
   go_meet
   case rel => exact ⟨rfl, rfl, ⟨HXp.out⟩, ⟨HB.out⟩⟩
 case rest =>
  obtain ⟨rfl, rfl, n_HXp, n_HB⟩ := hcut; clear HXp HB; have HXp := n_HXp; have HB := n_HB; clear n_HXp n_HB; have gp_0 := cz HXp.out 0 rfl
  go_wp2_with fail
  refine (lychseat_proto.calls p0 pr _ HPR.out).mono ?_; rintro e w4 ⟨rfl, hb⟩; have hb_ := hb; replace HB := mB HB hb_; replace HXp := mX HXp hb_; clear hb_; clear hb gp_0
  (try dsimp only)
  have gp_3 := cz HXp.out 3 rfl; have gp_4 := cz HXp.out 4 rfl
  go_wp2_with fail
  go_quiet ((first
   | (go_at_call 52; (with_reducible refine (Q5.out _).mono ?_); rintro e w' ⟨rfl, ⟨nd, rfl⟩⟩; exact ⟨rfl, _, rfl⟩)
   | (go_at_call 52; (with_reducible refine (Q5.out _).mono ?_); rintro e w' ⟨rfl, ⟨nd, rfl⟩⟩; exact ⟨rfl, _, World.drewN_drewN _ _ _⟩)
   | (go_at_call 52; (with_reducible refine (Q5.out _).mono ?_); rintro e w' ⟨rfl, ⟨nd, rfl⟩⟩; exact ⟨rfl, _, Eq.trans (World.drewN_drewN _ _ _) (congrArg (World.drewN _) (Nat.add_assoc _ _ _))⟩)
   | (go_at_call 52; (with_reducible refine (Q6.out _).mono ?_); rintro e w' ⟨rfl, ⟨nd, rfl⟩⟩; exact ⟨rfl, _, rfl⟩)
   | (go_at_call 52; (with_reducible refine (Q6.out _).mono ?_); rintro e w' ⟨rfl, ⟨nd, rfl⟩⟩; exact ⟨rfl, _, World.drewN_drewN _ _ _⟩)
   | (go_at_call 52; (with_reducible refine (Q6.out _).mono ?_); rintro e w' ⟨rfl, ⟨nd, rfl⟩⟩; exact ⟨rfl, _, Eq.trans (World.drewN_drewN _ _ _) (congrArg (World.drewN _) (Nat.add_assoc _ _ _))⟩)))
  refine rw_quiet ?_; intro w5 hb; have hb_ := hb; replace HB := mB HB hb_; replace HXp := mX HXp hb_; clear hb_; clear hb gp_3 gp_4; have gp_5 := cz HXp.out 5 rfl; have gp_8 := cz HXp.out 8 rfl
  go_wp2_with fail
  refine (seat_body.calls k pr src dst fr tp p5 p8 x _ HN.out.1 HX1.out).mono ?_; rintro e w6 ⟨v_, rfl, ho, hb⟩; have HRx := Aside0.mk (Kd.R_lower ho (below_size HB.out)); obtain ⟨Ax, cx, rfl, _, _⟩ := Kd.R_reads ho; clear ho; have hb_ := hb; replace HB := mB HB hb_; replace HXp := mX HXp hb_; clear hb_; clear hb gp_5 gp_8
  (try dsimp only)
  have gp_8 := cz HXp.out 8 rfl
  go_upto_region 8 with ((first | (refine rw_skip rfl rfl (rw_new rfl rfl rfl HI73.out rfl (by simp [Value.oneCell'])) ?_)))
  clear gp_8; obtain ⟨gi, hgi⟩ : ∃ x_, x_ = w6.heap.size := ⟨_, rfl⟩
  have HXi : Aside0 ((w6.alloc (.cells #[.int .u8 0, .int .u8 64, .int .u8 pr, .int .u16 (IntKind.u16.wrap p8), .int .u8 2, .int .u16 0, .int .u32 src, .int .u32 dst, .slice none 0 0, .slice Ax x.length cx] 73)).heap[gi]? = some (.cells #[.int .u8 0, .int .u8 64, .int .u8 pr, .int .u16 (IntKind.u16.wrap p8), .int .u8 2, .int .u16 0, .int .u32 src, .int .u32 dst, .slice none 0 0, .slice Ax x.length cx] 73 (0, 0))) := ⟨by rw [hgi]; exact rw_blknew _ _⟩
  have GHXi := Aside0.mk (show w.heap.size <= gi by rw [hgi]; exact below_size HB.out); rw [<- hgi]; clear hgi; have hb_ := below_alloc (Below.refl w6.heap.size w6) (.cells #[.int .u8 0, .int .u8 64, .int .u8 pr, .int .u16 (IntKind.u16.wrap p8), .int .u8 2, .int .u16 0, .int .u32 src, .int .u32 dst, .slice none 0 0, .slice Ax x.length cx] 73); replace HB := mB HB hb_; replace HXp := mX HXp hb_; replace HRx := mR HRx hb_; clear hb_; generalize (w6.alloc (.cells #[.int .u8 0, .int .u8 64, .int .u8 pr, .int .u16 (IntKind.u16.wrap p8), .int .u8 2, .int .u16 0, .int .u32 src, .int .u32 dst, .slice none 0 0, .slice Ax x.length cx] 73)) = w8 at HXi HB HXp HRx |-
  have gp_7 := cz HXp.out 7 rfl
  go_upto_if 72 with (fail)
  clear gp_7
  go_cut [] from 14 to 109 (fun w' => ∃ (A : Option Addr) (c_ : Nat), Aside0 (Kd.R (Kd.int .u8) 5 w' w.heap.size (fun _ => True) (.slice A x2.length c_) x2) /\ Aside0 (w'.heap[gi]? = some (.cells #[.int .u8 0, .int .u8 64, .int .u8 pr2, .int .u16 (IntKind.u16.wrap p8), .int .u8 2, .int .u16 0, .int .u32 src, .int .u32 dst, .slice none 0 0, .slice A x2.length c_] 73 (0, 0))) /\ Aside0 (w'.heap[gp]? = some (.cells #[.int .u8 p0, .int .u8 p1, .int .u8 p2, .int .u8 p3, .int .u8 p4, .int .u8 p5, .int .u8 p6, .int .u8 p7, .int .u8 p8, .int .u8 p9] 25 (0, 0))) /\ Aside0 (Below w.heap.size w w'))
  case first =>
   by_cases ge : p7.tmod 5 = 4
   ·have ge1 : (p7.tmod 5 == 4) = true := beq_iff_eq.2 ge
    have ge2 : (p7.tmod 5 != 4) = false := by rw [bne, ge1]; rfl
    have he : (seat_body.f k pr dst src tp fr p5 p8).bind (fun y => (lychref1_IpBytes.f k 0 3 pr 0 0 0 dst src [] y).bind fun q => (lychref1_IcmpSum.f k (rd [3, 11, 12] (p8.tmod 3)) 0 0 0 q.1).bind fun c => (lychref1_IcmpBytes.f (rd [3, 11, 12] (p8.tmod 3)) 0 c 0 q.1).bind fun m => some (1, m.1)) = some (pr2, x2) := by
     have h := HER.out; unfold seat_packet.er at h
     rwa [if_pos ge] at h
    obtain ⟨y, hy, he⟩ := rw_bind he; obtain ⟨⟨q, qe⟩, hq, he⟩ := rw_bind he; obtain ⟨c, hc, he⟩ := rw_bind he; obtain ⟨⟨m, me⟩, hm, he⟩ := rw_bind he; simp only [Option.some.injEq, Prod.mk.injEq] at he
    obtain ⟨rfl, rfl⟩ := he; dsimp only at hc hm
    obtain ⟨ty, hty⟩ : ∃ ty, ty = rd [3, 11, 12] (p8.tmod 3) := ⟨_, rfl⟩
    rw [<- hty] at hc hm
    have HY := Aside0.mk hy; have HQ_ := Aside0.mk hq; have HC_ := Aside0.mk hc; have HM_ := Aside0.mk hm; have HTY := Aside0.mk hty; clear ge hy hq hc hm hty; have gp_5 := cz HXp.out 5 rfl; have gp_8 := cz HXp.out 8 rfl
    go_wp2_with fail
    refine (seat_body.calls k pr dst src tp fr p5 p8 y _ HN.out.1 HY.out).mono ?_; rintro e w9 ⟨v_, rfl, ho, hb⟩; have HRy := Aside0.mk (Kd.R_lower ho (below_size HB.out)); obtain ⟨Ay, cy, rfl, hcy, hky⟩ := Kd.R_reads ho; have HCy := Aside0.mk hky; have HLy := Aside0.mk hcy; clear hky hcy; clear ho HY; have hb_ := hb; replace HB := mB HB hb_; replace HXp := mX HXp hb_; replace HXi := mX HXi hb_; replace HRx := mR HRx hb_; clear hb_; clear hb gp_5 gp_8
    (try dsimp only)
    go_upto_region 10 with ((first | (refine rw_skip rfl rfl (rw_new rfl rfl rfl HI73.out rfl (by simp [Value.oneCell'])) ?_)))
    obtain ⟨gn, hgn⟩ : ∃ x_, x_ = w9.heap.size := ⟨_, rfl⟩
    have HXn : Aside0 ((w9.alloc (.cells #[.int .u8 0, .int .u8 3, .int .u8 pr, .int .u16 0, .int .u8 0, .int .u16 0, .int .u32 dst, .int .u32 src, .slice none 0 0, .slice Ay y.length cy] 73)).heap[gn]? = some (.cells #[.int .u8 0, .int .u8 3, .int .u8 pr, .int .u16 0, .int .u8 0, .int .u16 0, .int .u32 dst, .int .u32 src, .slice none 0 0, .slice Ay y.length cy] 73 (0, 0))) := ⟨by rw [hgn]; exact rw_blknew _ _⟩
    have GHXn := Aside0.mk (show w.heap.size <= gn by rw [hgn]; exact below_size HB.out); rw [<- hgn]; clear hgn; have hb_ := below_alloc (Below.refl w9.heap.size w9) (.cells #[.int .u8 0, .int .u8 3, .int .u8 pr, .int .u16 0, .int .u8 0, .int .u16 0, .int .u32 dst, .int .u32 src, .slice none 0 0, .slice Ay y.length cy] 73); replace HB := mB HB hb_; replace HXp := mX HXp hb_; replace HXi := mX HXi hb_; replace HRx := mR HRx hb_; replace HCy := mC HCy hb_; clear hb_; generalize (w9.alloc (.cells #[.int .u8 0, .int .u8 3, .int .u8 pr, .int .u16 0, .int .u8 0, .int .u16 0, .int .u32 dst, .int .u32 src, .slice none 0 0, .slice Ay y.length cy] 73)) = w10 at HXn HB HXp HXi HRx HCy |-
    go_wp2_with (refine Kd.event_run rfl (rw_load rfl rfl HXn.out Try.underlying73 rfl HI73.out) ?_)
    refine (lychref1_IpBytes.calls k 0 3 pr 0 0 0 dst src none 0 [] Ay cy y q qe _ (Kd.C_nil _ _) (Nat.le_refl _) HCy.out HLy.out HQ_.out).mono ?_; rintro e w11 ⟨v_, rfl, ho, hb⟩; have HRq := Aside0.mk (Kd.R_lower ho (below_size HB.out)); obtain ⟨Aq, cq, rfl, hcq, _⟩ := Kd.R_reads ho; have HLq := Aside0.mk hcq; clear ho HQ_ HCy HXn GHXn HRy HLy hcq; have hb_ := hb; replace HB := mB HB hb_; replace HXp := mX HXp hb_; replace HXi := mX HXi hb_; replace HRx := mR HRx hb_; clear hb_; clear hb
    (try dsimp only)
    have gp_8 := cz HXp.out 8 rfl; have hidx : p8.tmod 3 < 3 := Int.tmod_lt_of_pos _ (by decide); have hidx0 : 0 <= p8.tmod 3 := Int.tmod_nonneg _ HN.out.1.1
    go_upto_region 12 with (first | ((with_reducible refine gate_dst (N := 92) rfl ?_); refine rw_lit ?hg_ (cs := #[.int .u8 3, .int .u8 11, .int .u8 12]) (t := 5) (n := 3) ?hr_ ?_; (case hg_ => rfl); (case hr_ => first | (go_simp; done) | (go_simp; rfl)); intro gl w12 HXl0 hgl hb0_; have HXl := Aside0.mk HXl0; clear HXl0 hgl gp_8; have hb_ := hb0_; replace HB := mB HB hb_; replace HXp := mX HXp hb_; replace HXi := mX HXi hb_; replace HRx := mR HRx hb_; replace HRq := mR HRq hb_; clear hb_; clear hb0_; have gp_8 : w12.cell? ⟨gp, 8, none⟩ = some (.int .u8 p8) := (blk_cell HXp.out 8).trans rfl; have hl_ : w12.cell? ⟨gl, (p8.tmod 3).toNat, none⟩ = some (.int .u8 ty) := by (rw [HTY.out]; exact rw_rd3 HXl.out _ hidx0 hidx)) | (first | (refine rw_skip rfl rfl (rw_new rfl rfl rfl HI101.out rfl (by simp [Value.oneCell'])) ?_)))
    clear hidx hidx0 gp_8 hl_ HXl; obtain ⟨gm, hgm⟩ : ∃ x_, x_ = w12.heap.size := ⟨_, rfl⟩
    have HXm : Aside0 ((w12.alloc (.cells #[.int .u8 ty, .int .u8 0, .int .u16 0, .int .u32 0, .slice Aq q.length cq] 101)).heap[gm]? = some (.cells #[.int .u8 ty, .int .u8 0, .int .u16 0, .int .u32 0, .slice Aq q.length cq] 101 (0, 0))) := ⟨by rw [hgm]; exact rw_blknew _ _⟩
    have GHXm := Aside0.mk (show w.heap.size <= gm by rw [hgm]; exact below_size HB.out); rw [<- hgm]; clear hgm; have hb_ := below_alloc (Below.refl w12.heap.size w12) (.cells #[.int .u8 ty, .int .u8 0, .int .u16 0, .int .u32 0, .slice Aq q.length cq] 101); replace HB := mB HB hb_; replace HXp := mX HXp hb_; replace HXi := mX HXi hb_; replace HRx := mR HRx hb_; replace HRq := mR HRq hb_; clear hb_; generalize (w12.alloc (.cells #[.int .u8 ty, .int .u8 0, .int .u16 0, .int .u32 0, .slice Aq q.length cq] 101)) = w17 at HXm HB HXp HXi HRx HRq |-
    go_wp2_with (refine Kd.event_run rfl (rw_load rfl rfl HXm.out Try.underlying101 rfl HI101.out) ?_)
    refine (lychref1_IcmpSum.calls k ty 0 0 0 Aq cq q c _ (Kd.R_reads' HRq.out).2.2 HLq.out HC_.out).mono ?_; rintro e w18 ⟨rfl, hb⟩; clear HC_; have hb_ := hb; replace HB := mB HB hb_; replace HXp := mX HXp hb_; replace HXi := mX HXi hb_; replace HXm := mX HXm hb_; replace HRx := mR HRx hb_; replace HRq := mR HRq hb_; clear hb_; clear hb
    (try dsimp only)
    go_upto_region 14 with (first | ((refine rw_set rfl rfl (i := 2) (v := .int .u16 c) (cs' := #[.int .u8 ty, .int .u8 0, .int .u16 c, .int .u32 0, .slice Aq q.length cq]) HXm.out rfl ?hr_ ?_); (case hr_ => (have m_ := (blk_cell HXm.out 2).trans (rfl : _ = some (.int .u16 0 : Value))); (have mf_ := blk_frozen HXm.out 2); first | (go_simp; done) | (go_simp; rfl)); intro w13 hs_ off_; have n_HB := Aside0.mk (Off.below off_ HB.out GHXm.out); have n_HXp := Aside0.mk (Off.blk off_ HXp.out HXm.out (by decide)); have n_HXi := Aside0.mk (Off.blk off_ HXi.out HXm.out (by decide)); have n_HRx := Aside0.mk (Off.R off_ HRx.out HXm.out (by decide)); have n_HRq := Aside0.mk (Off.R off_ HRq.out HXm.out (by decide)); clear HB HXp HXi HRx HRq HXm off_; have HXm := Aside0.mk hs_; clear hs_; have HB := n_HB; have HXp := n_HXp; have HXi := n_HXi; have HRx := n_HRx; have HRq := n_HRq; clear n_HB n_HXp n_HXi n_HRx n_HRq) | ((refine rw_set rfl rfl (i := 2) (v := .int .u8 1) (cs' := #[.int .u8 0, .int .u8 64, .int .u8 1, .int .u16 (IntKind.u16.wrap p8), .int .u8 2, .int .u16 0, .int .u32 src, .int .u32 dst, .slice none 0 0, .slice Ax x.length cx]) HXi.out rfl ?hr_ ?_); (case hr_ => (have m_ := (blk_cell HXi.out 2).trans (rfl : _ = some (.int .u8 pr : Value))); (have mf_ := blk_frozen HXi.out 2); first | (go_simp; done) | (go_simp; rfl)); intro w14 hs_ off_; have n_HB := Aside0.mk (Off.below off_ HB.out GHXi.out); have n_HXp := Aside0.mk (Off.blk off_ HXp.out HXi.out (by decide)); have n_HXm := Aside0.mk (Off.blk off_ HXm.out HXi.out (by decide)); have n_HRx := Aside0.mk (Off.R off_ HRx.out HXi.out (by decide)); have n_HRq := Aside0.mk (Off.R off_ HRq.out HXi.out (by decide)); clear HB HXp HXm HRx HRq HXi off_; have HXi := Aside0.mk hs_; clear hs_; have HB := n_HB; have HXp := n_HXp; have HXm := n_HXm; have HRx := n_HRx; have HRq := n_HRq; clear n_HB n_HXp n_HXm n_HRx n_HRq))
    go_wp2_with (refine Kd.event_run rfl (rw_load rfl rfl HXm.out Try.underlying101 rfl HI101.out) ?_)
    refine (lychref1_IcmpBytes.calls ty 0 c 0 Aq cq q m me _ (Kd.R_reads' HRq.out).2.2 HLq.out HM_.out).mono ?_; rintro e w15 ⟨v_, rfl, ho, hb⟩; have HRm := Aside0.mk (Kd.R_lower ho (below_size HB.out)); obtain ⟨Am, cm, rfl, _, _⟩ := Kd.R_reads ho; clear ho HM_ HXm GHXm HRq HLq HRx; have hb_ := hb; replace HB := mB HB hb_; replace HXp := mX HXp hb_; replace HXi := mX HXi hb_; clear hb_; clear hb
    go_wp2_with ((refine rw_set rfl rfl (i := 9) (v := .slice Am m.length cm) (cs' := #[.int .u8 0, .int .u8 64, .int .u8 1, .int .u16 (IntKind.u16.wrap p8), .int .u8 2, .int .u16 0, .int .u32 src, .int .u32 dst, .slice none 0 0, .slice Am m.length cm]) HXi.out rfl ?hr_ ?_); (case hr_ => (have m_ := (blk_cell HXi.out 9).trans (rfl : _ = some (.slice Ax x.length cx : Value))); (have mf_ := blk_frozen HXi.out 9); first | (go_simp; done) | (go_simp; rfl)); intro w16 hs_ off_; have n_HB := Aside0.mk (Off.below off_ HB.out GHXi.out); have n_HXp := Aside0.mk (Off.blk off_ HXp.out HXi.out (by decide)); have n_HRm := Aside0.mk (Off.R off_ HRm.out HXi.out (by decide)); clear HB HXp HRm HXi off_; have HXi := Aside0.mk hs_; clear hs_; have HB := n_HB; have HXp := n_HXp; have HRm := n_HRm; clear n_HB n_HXp n_HRm)
    go_meet
    case rel => exact ⟨_, _, ⟨HRm.out⟩, ⟨HXi.out⟩, ⟨HXp.out⟩, ⟨HB.out⟩⟩
   ·have ge1 : (p7.tmod 5 == 4) = false := beq_eq_false_iff_ne.2 ge
    have ge2 : (p7.tmod 5 != 4) = true := bne_iff_ne.2 ge
    have he : pr = pr2 /\ x = x2 := by
     have h := HER.out; unfold seat_packet.er at h
     rw [if_neg ge] at h
     simp only [Option.some.injEq, Prod.mk.injEq] at h
     exact h
    obtain ⟨rfl, rfl⟩ := he; clear ge
    go_wp2
    go_meet
    case rel => exact ⟨_, _, ⟨HRx.out⟩, ⟨HXi.out⟩, ⟨HXp.out⟩, ⟨HB.out⟩⟩
  case rest =>
   obtain ⟨A, c_, n_HRx, n_HXi, n_HXp, n_HB⟩ := hcut; clear HRx HXi HXp HB; have HRx := n_HRx; have HXi := n_HXi; have HXp := n_HXp; have HB := n_HB; clear n_HRx n_HXi n_HXp n_HB; have gp_6 := cz HXp.out 6 rfl
   go_upto_block 0 with (fail)
   clear gp_6
   go_cut [] from 113 to 132 (fun w' => ∃ (Ao : Option Addr) (co : Nat), Aside0 (Kd.R (Kd.int .u8) 5 w' w.heap.size (fun _ => True) (.slice Ao op.length co) op) /\ Aside0 (Kd.R (Kd.int .u8) 5 w' w.heap.size (fun _ => True) (.slice A x2.length c_) x2) /\ Aside0 (w'.heap[gi]? = some (.cells #[.int .u8 0, .int .u8 ttl, .int .u8 pr3, .int .u16 (IntKind.u16.wrap p8), .int .u8 fl2, .int .u16 of2, .int .u32 src, .int .u32 dst, .slice Ao op.length co, .slice A x2.length c_] 73 (0, 0))) /\ Aside0 (w'.heap[gp]? = some (.cells #[.int .u8 p0, .int .u8 p1, .int .u8 p2, .int .u8 p3, .int .u8 p4, .int .u8 p5, .int .u8 p6, .int .u8 p7, .int .u8 p8, .int .u8 p9] 25 (0, 0))) /\ Aside0 (Below w.heap.size w w'))
   case first =>
    by_cases t0 : p6.tmod 16 = 0
    ·have t01 : (p6.tmod 16 == 0) = true := beq_iff_eq.2 t0
     have t02 : (p6.tmod 16 != 0) = false := by rw [bne, t01]; rfl
     have e := HSW.out; unfold seat_packet.sw at e
     rw [if_pos t0] at e
     simp only [Prod.mk.injEq] at e
     obtain ⟨rfl, rfl, rfl, rfl, rfl⟩ := e; clear t0; have gp_6 := cz HXp.out 6 rfl
     go_wp2_with (((refine rw_set rfl rfl (i := 1) (v := .int .u8 (p6.tdiv 16 % 256 % 3)) (cs' := #[.int .u8 0, .int .u8 (p6.tdiv 16 % 256 % 3), .int .u8 pr2, .int .u16 (IntKind.u16.wrap p8), .int .u8 2, .int .u16 0, .int .u32 src, .int .u32 dst, .slice none 0 0, .slice A x2.length c_]) HXi.out rfl ?hr_ ?_); (case hr_ => (have m_ := (blk_cell HXi.out 1).trans (rfl : _ = some (.int .u8 64 : Value))); (have mf_ := blk_frozen HXi.out 1); first | (go_simp; done) | (go_simp; rfl)); intro w21 hs_ off_; have n_HB := Aside0.mk (Off.below off_ HB.out GHXi.out); have n_HXp := Aside0.mk (Off.blk off_ HXp.out HXi.out (by decide)); have n_HRx := Aside0.mk (Off.R off_ HRx.out HXi.out (by decide)); clear HB HXp HRx HXi off_; have HXi := Aside0.mk hs_; clear hs_; have HB := n_HB; have HXp := n_HXp; have HRx := n_HRx; clear n_HB n_HXp n_HRx))
     go_meet
     case rel => exact ⟨_, _, ⟨Kd.R_nil _ _ _ _ _⟩, ⟨HRx.out⟩, ⟨HXi.out⟩, ⟨HXp.out⟩, ⟨HB.out⟩⟩
    ·have t01 : (p6.tmod 16 == 0) = false := beq_eq_false_iff_ne.2 t0
     have t02 : (p6.tmod 16 != 0) = true := bne_iff_ne.2 t0
     by_cases t1 : p6.tmod 16 = 1
     ·have t11 : (p6.tmod 16 == 1) = true := beq_iff_eq.2 t1
      have t12 : (p6.tmod 16 != 1) = false := by rw [bne, t11]; rfl
      have e := HSW.out; unfold seat_packet.sw at e
      rw [if_neg t0] at e
      rw [if_pos t1] at e
      simp only [Prod.mk.injEq] at e
      obtain ⟨rfl, rfl, rfl, rfl, rfl⟩ := e; clear t0 t1
      go_wp2_with (((refine rw_set rfl rfl (i := 4) (v := .int .u8 1) (cs' := #[.int .u8 0, .int .u8 64, .int .u8 pr2, .int .u16 (IntKind.u16.wrap p8), .int .u8 1, .int .u16 0, .int .u32 src, .int .u32 dst, .slice none 0 0, .slice A x2.length c_]) HXi.out rfl ?hr_ ?_); (case hr_ => (have m_ := (blk_cell HXi.out 4).trans (rfl : _ = some (.int .u8 2 : Value))); (have mf_ := blk_frozen HXi.out 4); first | (go_simp; done) | (go_simp; rfl)); intro w21 hs_ off_; have n_HB := Aside0.mk (Off.below off_ HB.out GHXi.out); have n_HXp := Aside0.mk (Off.blk off_ HXp.out HXi.out (by decide)); have n_HRx := Aside0.mk (Off.R off_ HRx.out HXi.out (by decide)); clear HB HXp HRx HXi off_; have HXi := Aside0.mk hs_; clear hs_; have HB := n_HB; have HXp := n_HXp; have HRx := n_HRx; clear n_HB n_HXp n_HRx))
      go_meet
      case rel => exact ⟨_, _, ⟨Kd.R_nil _ _ _ _ _⟩, ⟨HRx.out⟩, ⟨HXi.out⟩, ⟨HXp.out⟩, ⟨HB.out⟩⟩
     ·have t11 : (p6.tmod 16 == 1) = false := beq_eq_false_iff_ne.2 t1
      have t12 : (p6.tmod 16 != 1) = true := bne_iff_ne.2 t1
      by_cases t2 : p6.tmod 16 = 2
      ·have t21 : (p6.tmod 16 == 2) = true := beq_iff_eq.2 t2
       have t22 : (p6.tmod 16 != 2) = false := by rw [bne, t21]; rfl
       have e := HSW.out; unfold seat_packet.sw at e
       rw [if_neg t0] at e
       rw [if_neg t1] at e
       rw [if_pos t2] at e
       simp only [Prod.mk.injEq] at e
       obtain ⟨rfl, rfl, rfl, rfl, rfl⟩ := e; clear t0 t1 t2
       go_wp2_with (((refine rw_set rfl rfl (i := 5) (v := .int .u16 5) (cs' := #[.int .u8 0, .int .u8 64, .int .u8 pr2, .int .u16 (IntKind.u16.wrap p8), .int .u8 2, .int .u16 5, .int .u32 src, .int .u32 dst, .slice none 0 0, .slice A x2.length c_]) HXi.out rfl ?hr_ ?_); (case hr_ => (have m_ := (blk_cell HXi.out 5).trans (rfl : _ = some (.int .u16 0 : Value))); (have mf_ := blk_frozen HXi.out 5); first | (go_simp; done) | (go_simp; rfl)); intro w21 hs_ off_; have n_HB := Aside0.mk (Off.below off_ HB.out GHXi.out); have n_HXp := Aside0.mk (Off.blk off_ HXp.out HXi.out (by decide)); have n_HRx := Aside0.mk (Off.R off_ HRx.out HXi.out (by decide)); clear HB HXp HRx HXi off_; have HXi := Aside0.mk hs_; clear hs_; have HB := n_HB; have HXp := n_HXp; have HRx := n_HRx; clear n_HB n_HXp n_HRx))
       go_meet
       case rel => exact ⟨_, _, ⟨Kd.R_nil _ _ _ _ _⟩, ⟨HRx.out⟩, ⟨HXi.out⟩, ⟨HXp.out⟩, ⟨HB.out⟩⟩
      ·have t21 : (p6.tmod 16 == 2) = false := beq_eq_false_iff_ne.2 t2
       have t22 : (p6.tmod 16 != 2) = true := bne_iff_ne.2 t2
       by_cases t3 : p6.tmod 16 = 3
       ·have t31 : (p6.tmod 16 == 3) = true := beq_iff_eq.2 t3
        have t32 : (p6.tmod 16 != 3) = false := by rw [bne, t31]; rfl
        have e := HSW.out; unfold seat_packet.sw at e
        rw [if_neg t0] at e
        rw [if_neg t1] at e
        rw [if_neg t2] at e
        rw [if_pos t3] at e
        simp only [Prod.mk.injEq] at e
        obtain ⟨rfl, rfl, rfl, rfl, rfl⟩ := e; clear t0 t1 t2 t3
        go_wp2_with (((refine rw_set rfl rfl (i := 2) (v := .int .u8 47) (cs' := #[.int .u8 0, .int .u8 64, .int .u8 47, .int .u16 (IntKind.u16.wrap p8), .int .u8 2, .int .u16 0, .int .u32 src, .int .u32 dst, .slice none 0 0, .slice A x2.length c_]) HXi.out rfl ?hr_ ?_); (case hr_ => (have m_ := (blk_cell HXi.out 2).trans (rfl : _ = some (.int .u8 pr2 : Value))); (have mf_ := blk_frozen HXi.out 2); first | (go_simp; done) | (go_simp; rfl)); intro w21 hs_ off_; have n_HB := Aside0.mk (Off.below off_ HB.out GHXi.out); have n_HXp := Aside0.mk (Off.blk off_ HXp.out HXi.out (by decide)); have n_HRx := Aside0.mk (Off.R off_ HRx.out HXi.out (by decide)); clear HB HXp HRx HXi off_; have HXi := Aside0.mk hs_; clear hs_; have HB := n_HB; have HXp := n_HXp; have HRx := n_HRx; clear n_HB n_HXp n_HRx))
        go_meet
        case rel => exact ⟨_, _, ⟨Kd.R_nil _ _ _ _ _⟩, ⟨HRx.out⟩, ⟨HXi.out⟩, ⟨HXp.out⟩, ⟨HB.out⟩⟩
       ·have t31 : (p6.tmod 16 == 3) = false := beq_eq_false_iff_ne.2 t3
        have t32 : (p6.tmod 16 != 3) = true := bne_iff_ne.2 t3
        by_cases t4 : p6.tmod 16 = 4
        ·have t41 : (p6.tmod 16 == 4) = true := beq_iff_eq.2 t4
         have t42 : (p6.tmod 16 != 4) = false := by rw [bne, t41]; rfl
         have e := HSW.out; unfold seat_packet.sw at e
         rw [if_neg t0] at e
         rw [if_neg t1] at e
         rw [if_neg t2] at e
         rw [if_neg t3] at e
         rw [if_pos t4] at e
         simp only [Prod.mk.injEq] at e
         obtain ⟨rfl, rfl, rfl, rfl, rfl⟩ := e; clear t0 t1 t2 t3 t4
         go_wp2_with (first | ((with_reducible refine gate_dst (N := 131) rfl ?_); refine rw_litR .u8 w.heap.size 5 ?hg_ (N := 131) ?hd_ [1, 1, 1, 1] ?hr_ HB.out (below_size HB.out) (by simp) ?_; (case hd_ => rfl); (case hg_ => rfl); (case hr_ => first | (go_simp; done) | (go_simp; rfl)); intro Ao co w20 ho hb0_ hg_; have HRo := Aside0.mk ho; have n_HXi := Aside0.mk (blk_grown HXi.out hg_ (fun h => nomatch h)); have n_HXp := Aside0.mk (blk_grown HXp.out hg_ (fun h => nomatch h)); have n_HRx := Aside0.mk (Kd.R_step HRx.out (fun k_ _ hk_ => hg_.block k_ hk_ (fun h => nomatch h))); have n_HB := Aside0.mk hb0_; clear ho hb0_ hg_; clear HXi HXp HRx HB; have HXi := n_HXi; have HXp := n_HXp; have HRx := n_HRx; have HB := n_HB; clear n_HXi n_HXp n_HRx n_HB) | ((refine rw_set rfl rfl (i := 8) (v := .slice Ao 4 co) (cs' := #[.int .u8 0, .int .u8 64, .int .u8 pr2, .int .u16 (IntKind.u16.wrap p8), .int .u8 2, .int .u16 0, .int .u32 src, .int .u32 dst, .slice Ao 4 co, .slice A x2.length c_]) HXi.out rfl ?hr_ ?_); (case hr_ => (have m_ := (blk_cell HXi.out 8).trans (rfl : _ = some (.slice none 0 0 : Value))); (have mf_ := blk_frozen HXi.out 8); first | (go_simp; done) | (go_simp; rfl)); intro w22 hs_ off_; have n_HB := Aside0.mk (Off.below off_ HB.out GHXi.out); have n_HXp := Aside0.mk (Off.blk off_ HXp.out HXi.out (by decide)); have n_HRx := Aside0.mk (Off.R off_ HRx.out HXi.out (by decide)); have n_HRo := Aside0.mk (Off.R off_ HRo.out HXi.out (by decide)); clear HB HXp HRx HRo HXi off_; have HXi := Aside0.mk hs_; clear hs_; have HB := n_HB; have HXp := n_HXp; have HRx := n_HRx; have HRo := n_HRo; clear n_HB n_HXp n_HRx n_HRo))
         go_meet
         case rel => exact ⟨_, _, ⟨HRo.out⟩, ⟨HRx.out⟩, ⟨HXi.out⟩, ⟨HXp.out⟩, ⟨HB.out⟩⟩
        ·have t41 : (p6.tmod 16 == 4) = false := beq_eq_false_iff_ne.2 t4
         have t42 : (p6.tmod 16 != 4) = true := bne_iff_ne.2 t4; have e := HSW.out; unfold seat_packet.sw at e
         rw [if_neg t0] at e
         rw [if_neg t1] at e
         rw [if_neg t2] at e
         rw [if_neg t3] at e
         rw [if_neg t4] at e
         simp only [Prod.mk.injEq] at e
         obtain ⟨rfl, rfl, rfl, rfl, rfl⟩ := e; clear t0 t1 t2 t3 t4
         go_wp2_with (fail)
         go_meet
         case rel => exact ⟨_, _, ⟨Kd.R_nil _ _ _ _ _⟩, ⟨HRx.out⟩, ⟨HXi.out⟩, ⟨HXp.out⟩, ⟨HB.out⟩⟩
   case rest =>
    obtain ⟨Ao, co, HRo, n_HRx, n_HXi, n_HXp, n_HB⟩ := hcut; clear HRx HXi HXp HB; have HRx := n_HRx; have HXi := n_HXi; have HXp := n_HXp; have HB := n_HB; clear n_HRx n_HXi n_HXp n_HB
    go_wp2_with (refine Kd.event_run rfl (rw_load rfl rfl HXi.out Try.underlying73 rfl HI73.out) ?_)
    refine (lychref1_IpBytes.calls k 0 ttl pr3 (IntKind.u16.wrap p8) fl2 of2 src dst Ao co op A c_ x2 b be _ (Kd.R_reads' HRo.out).2.2 (Kd.R_reads' HRo.out).2.1 (Kd.R_reads' HRx.out).2.2 (Kd.R_reads' HRx.out).2.1 HBB.out).mono ?_; rintro e w24 ⟨v_, rfl, ho, hb⟩; have HRb := Aside0.mk (Kd.R_lower ho (below_size HB.out)); obtain ⟨Ab, cb, rfl, _, _⟩ := Kd.R_reads ho; clear ho HBB HRo HRx HXi GHXi; have hb_ := hb; replace HB := mB HB hb_; replace HXp := mX HXp hb_; clear hb_; clear hb
    (try dsimp only)
    have gp_9 := cz HXp.out 9 rfl
    by_cases g7 : p9.tmod 8 = 7
    ·have g71 : (p9.tmod 8 == 7) = true := beq_iff_eq.2 g7
     have g72 : (p9.tmod 8 != 7) = false := by rw [bne, g71]; rfl
     by_cases hl : 0 < b.length
     ·have clc : decide (0 < b.length) = true := decide_eq_true (by omega)
      have cla : decide ((0 : Int) < (b.length : Int)) = true := decide_eq_true (by omega); have clb : ((0 : Int) < (b.length : Int)) = True := eq_true (by omega); obtain ⟨gb, cap, hv, hgb, _, _⟩ := Kd.R_form HRb.out hl
      injection hv with h1 h2 h3
      subst h1 h3; obtain ⟨j, hj⟩ : ∃ j : Nat, (j : Int) = Int.tmod p9 (b.length : Int) := ⟨(Int.tmod p9 (b.length : Int)).toNat, Int.toNat_of_nonneg (Int.tmod_nonneg _ HN.out.2.1)⟩
      have hjn : j < b.length := by
       have h5 : Int.tmod p9 (b.length : Int) < (b.length : Int) := Int.tmod_lt_of_pos _ (by omega)
       omega
      obtain ⟨hcb, hfb⟩ := Kd.R_cell (0 : Int) HRb.out (j : Int) (by omega) (by omega); have HCB : Aside0 (w24.cell? ⟨gb, j, none⟩ = some (.int .u8 (rd b (j : Int)))) := ⟨hcb⟩
      have HFB : Aside0 (w24.frozen? ⟨gb, j, none⟩ = false) := ⟨hfb⟩
      have HGB := Aside0.mk hgb; have HJ7 : Aside0 (Value.int .i64 (Int.tmod p9 (b.length : Int)) = .int .i64 (j : Int)) := ⟨by rw [hj]⟩
      have HZ7 : Aside0 (¬ b = []) := ⟨fun e => by rw [e] at hl; exact Nat.lt_irrefl 0 hl⟩
      have HS8 : Aside0 (0 <= p8.tmod 8 /\ p8.tmod 8 <= 8) := ⟨⟨Int.tmod_nonneg _ HN.out.1.1, by have := Int.tmod_lt_of_pos p8 (show (0 : Int) < 8 by decide); omega⟩⟩
      have HJ9 : Aside0 (Int.tmod p9 (b.length : Int) = (j : Int)) := ⟨hj.symm⟩
      have HWN : Aside0 (wrap64 p9 = p9) := ⟨by have := HN.out.2; unfold wrap64; omega⟩
      have HJ8 : Aside0 (((j : Int) < (b.length : Int)) = True) := ⟨eq_true (by omega)⟩
      have HSP : Aside0 (seat_packet.sp p8 p9 b = b.set j (Go.bits .xor .u8 (rd b (j : Int)) (IntKind.u8.wrap (2 ^ (p8.tmod 8).toNat)))) := ⟨by unfold seat_packet.sp; rw [if_pos g7, if_pos hl, <- hj, Int.toNat_natCast]⟩
      clear hcb hfb hgb hj hjn h2 hl g7
      go_upto_region 28 with (fail)
      clear g71 g72 cla clb clc gp_9; refine start_ (n := 16) (S := fun w' => w'.cell? ⟨gp, 9, none⟩ = some (.int .u8 p9) /\ w'.cell? ⟨gp, 8, none⟩ = some (.int .u8 p8) /\ w'.cell? ⟨gb, j, none⟩ = some (.int .u8 (rd b (j : Int)))) (ds := [15]) #[false, false, false, false, false, false, false, false, false, false, false, false, false, false, false, false] (by kernel_rfl) rfl rfl ⟨(blk_cell HXp.out 9).trans rfl, (blk_cell HXp.out 8).trans rfl, HCB.out⟩ (fun hHeld => ?_); refine with_tabW seat_packet.R28.tab seat_packet.R28.bits (fun HT_ HW_ => ?_); have hb := below_drew1 (Below.refl w24.heap.size w24); have n_HCB := Aside0.mk (show w24.drew.cell? ⟨gb, j, none⟩ = some (.int .u8 (rd b (j : Int))) from HCB.out); have n_HFB := Aside0.mk (show w24.drew.frozen? ⟨gb, j, none⟩ = false from HFB.out); clear HCB HFB; have HCB := n_HCB; have HFB := n_HFB; clear n_HCB n_HFB; have hb_ := hb
      replace HB := mB HB hb_; replace HXp := mX HXp hb_; replace HRb := mR HRb hb_; clear hb_; clear hb; generalize w24.drew = w24 at HB HXp HRb HCB HFB hHeld |-
      refine pz 0 147 HT_ ?_; refine pz 1 148 HT_ ?_; refine pz 4 151 HT_ ?_; refine pz 5 152 HT_ ?_; refine pz 9 156 HT_ ?_; refine tz 2 149 HT_ HW_ hHeld ?_; refine pz 3 150 HT_ ?_; refine pure_ (i := 6) (N := some 153) (v := ?_) (a' := ?_) #[true, true, true, true, true, true, true, false, false, true, false, false, false, false, false, false] rfl rfl (any_of HT_.out (by kernel_rfl)) (fun _ _ _ h => h) (Or.inl ⟨by rfl, ?_⟩) ?_ ?_
      rotate_left
      ·intro w'
       have z7 := HZ7.out; have z8 := HWN.out
       go_simp
       first | exact HJ7.out | exact HJ9.out
      rotate_left
      ·simp only [ps_]
       rfl
      refine pure_ (i := 7) (N := some 154) (v := ?_) (a' := ?_) #[true, true, true, true, true, true, true, true, false, true, false, false, false, false, false, false] rfl rfl (any_of HT_.out (by kernel_rfl)) (fun _ _ _ h => h) (Or.inl ⟨by rfl, ?_⟩) ?_ ?_
      rotate_left
      ·intro w'
       have z7 := HJ8.out
       go_simp
       with_reducible rfl
      rotate_left
      ·simp only [ps_]
       rfl
      refine tz 8 155 HT_ HW_ hHeld ?_; refine tz 10 157 HT_ HW_ hHeld ?_; refine pz 11 158 HT_ ?_; refine pure_ (i := 12) (N := some 159) (v := ?_) (a' := ?_) #[true, true, true, true, true, true, true, true, true, true, true, true, true, false, false, false] rfl rfl (any_of HT_.out (by kernel_rfl)) (fun _ _ _ h => h) (Or.inl ⟨by rfl, ?_⟩) ?_ ?_
      rotate_left
      ·intro w'
       have z1 := HS8.out.1; have z2 := HS8.out.2
       go_simp
       with_reducible rfl
      rotate_left
      ·simp only [ps_]
       rfl
      refine pz 13 160 HT_ ?_; refine pure_ (i := 14) (N := some 161) (v := ?_) (a' := ?_) #[true, true, true, true, true, true, true, true, true, true, true, true, true, true, true, false] rfl rfl (any_of HT_.out (by kernel_rfl)) (fun _ _ _ h => h) (Or.inl ⟨by rfl, ?_⟩) ?_ ?_
      rotate_left
      ·intro w'
       have z7 := HJ8.out
       go_simp
       with_reducible rfl
      rotate_left
      ·simp only [ps_]
       rfl
      refine last_ (i := 15) (N := none) #[true, true, true, true, true, true, true, true, true, true, true, true, true, true, true, true] rfl rfl (one_of HT_.out (by kernel_rfl)) (by decide) (fun K hK => ?_); have s0 := HCB.out; have hfs0 := HFB.out; refine skip_ (w1 := w24.setCell ⟨gb, j, none⟩ (.int .u8 (Go.bits .xor .u8 (rd b (j : Int)) (IntKind.u8.wrap (2 ^ (p8.tmod 8).toNat))))) (by rfl) rfl ?_ ?_
      ·go_simp
      clear s0 hfs0; refine hK.out _ _ ?_; clear hK K; refine dz HT_ ?_; clear HT_ HW_ hHeld; have HB2 := Aside0.mk (Below.setCell (p := ⟨gb, j, none⟩) HB.out HGB.out (.int .u8 (Go.bits .xor .u8 (rd b (j : Int)) (IntKind.u8.wrap (2 ^ (p8.tmod 8).toNat))))); have HR2 := Aside0.mk (Kd.R_putn HRb.out (j : Int) (Go.bits .xor .u8 (rd b (j : Int)) (IntKind.u8.wrap (2 ^ (p8.tmod 8).toNat)))); clear HB HRb HXp HCB HFB
      (try dsimp only)
      go_wp2
      (try simp only [Exit.inBlock, Exit.then])
      go_ret
      rw [HSP.out]; exact ⟨_, rfl, HR2.out, HB2.out⟩
     ·have clc : decide (0 < b.length) = false := decide_eq_false (by omega)
      have cla : decide ((0 : Int) < (b.length : Int)) = false := decide_eq_false (by omega); have clb : ((0 : Int) < (b.length : Int)) = False := eq_false (by omega)
      (try dsimp only)
      go_wp2
      (try simp only [Exit.inBlock, Exit.then])
      go_ret
      exact ⟨_, rfl, (by unfold seat_packet.sp; rw [if_pos g7, if_neg hl]; exact HRb.out), HB.out⟩
    ·have g71 : (p9.tmod 8 == 7) = false := beq_eq_false_iff_ne.2 g7
     have g72 : (p9.tmod 8 != 7) = true := bne_iff_ne.2 g7
     (try dsimp only)
     go_wp2
     (try simp only [Exit.inBlock, Exit.then])
     go_ret
     exact ⟨_, rfl, (by unfold seat_packet.sp; rw [if_neg g7]; exact HRb.out), HB.out⟩
def k8B : List Int := [69, 0, 0, 28, 0, 0, 64, 0, 64, 1, 32, 209, 10, 0, 0, 1, 8, 8, 8, 8, 8, 0, 244, 23, 3, 232, 0, 0]
def k8C : List Int := [69, 0, 0, 28, 0, 0, 64, 0, 64, 1, 58, 223, 0, 0, 0, 1, 0, 0, 0, 2, 8, 0, 247, 246, 0, 9, 0, 0]
def k8D : List Int := [69, 0, 0, 28, 0, 0, 64, 0, 63, 1, 33, 209, 10, 0, 0, 1, 8, 8, 8, 8, 8, 0, 244, 23, 3, 232, 0, 0]
theorem k8_pkt : seat_packet.f 100 2 0 0 0 0 0 9 0 0 0 0 0 = some k8B := by decide +kernel
def k8r : LK := ⟨0, 64, 1, 0, 2, 0, 167772161, 134744072, [], [8, 0, 244, 23, 3, 232, 0, 0], .icmp 8 0 62487 65536000 [], 1000, 1000, 0, [], 0⟩
def k8s : LK := ⟨0, 64, 1, 0, 2, 0, 1, 2, [], [8, 0, 247, 246, 0, 9, 0, 0], .icmp 8 0 63478 589824 [], 9, 9, 0, [], 0⟩
theorem k8_chg : changeG 100 k8r 1 9 2 9 (some [8, 0, 247, 246, 0, 9, 0, 0]) = some (k8C, 0) := by decide +kernel
theorem k8_pt : pointed.f 100 1 9 2 9 (.icmp 8 0 62487 65536000 []) = some [8, 0, 247, 246, 0, 9, 0, 0] := by decide +kernel
theorem k8_hop : rewrite_Hop.f 100 k8B = some (k8D, 0) := by decide +kernel
theorem k8_ip : ip_Parse.f 100 k8B = some (0, 64, 1, 0, 2, 0, 167772161, 134744072, [], [8, 0, 244, 23, 3, 232, 0, 0], 0) := by kernel_rfl
theorem k8_ipC : ip_Parse.f 100 k8C = some (0, 64, 1, 0, 2, 0, 1, 2, [], [8, 0, 247, 246, 0, 9, 0, 0], 0) := by kernel_rfl
theorem k8_ip0 : ip_Parse.f 100 [] = some (0, 0, 0, 0, 0, 0, 0, 0, [], [], 20) := by kernel_rfl
theorem k8_lk : lookIcmp 100 0 64 0 2 0 167772161 134744072 [] [8, 0, 244, 23, 3, 232, 0, 0] = some k8r := by kernel_rfl
theorem k8_lkC : lookIcmp 100 0 64 0 2 0 1 2 [] [8, 0, 247, 246, 0, 9, 0, 0] = some k8s := by kernel_rfl
theorem k8_69 (A : Option Addr) (c : Nat) (hL : k8B.length <= c) (w : World) (hC : Kd.C (Kd.int .u8) w A k8B.length k8B) : Calls Try.prog 69 #[.slice A k8B.length c] w fun e w' => k8r.Post w.heap.size w e w' := look.lk_icmp 100 A c k8B 0 64 0 2 0 167772161 134744072 [] [8, 0, 244, 23, 3, 232, 0, 0] k8r w hC hL k8_ip k8_lk
theorem k8_69C (A : Option Addr) (c : Nat) (hL : k8C.length <= c) (w : World) (hC : Kd.C (Kd.int .u8) w A k8C.length k8C) : Calls Try.prog 69 #[.slice A k8C.length c] w fun e w' => k8s.Post w.heap.size w e w' := look.lk_icmp 100 A c k8C 0 64 0 2 0 1 2 [] [8, 0, 247, 246, 0, 9, 0, 0] k8s w hC hL k8_ipC k8_lkC
theorem k8_690 (c : Nat) (w : World) (hC : Kd.C (Kd.int .u8) w none ([] : List Int).length []) : Calls Try.prog 69 #[.slice none ([] : List Int).length c] w fun e w' => (LK.err 20).Post w.heap.size w e w' := look.lk_bad 100 none c [] 0 0 0 0 0 0 0 0 [] [] 20 w hC (Nat.zero_le _) k8_ip0 (by decide)
theorem k8_70 (y : List Int) (hy : some [8, 0, 247, 246, 0, 9, 0, 0] = some y) (w : World) (vx : Value) (base : Nat) (hv : k8r.x.V w base vx) : Calls Try.prog 70 #[vx, .agg #[.int .u32 1, .int .u16 9], .agg #[.int .u32 2, .int .u16 9]] w fun e w' => ∃ vz : Value, e = .returned vz /\ Kd.R (Kd.int .u8) 5 w' w.heap.size (fun _ => True) vz y /\ Below w.heap.size w w' := by
 obtain rfl := Option.some.inj hy; obtain ⟨v4, rfl, h4⟩ := hv; exact pointed.pt_icmp 100 1 9 2 9 8 0 62487 65536000 [] v4 _ w h4 k8_pt
theorem load_mid_ {P : Program} {o : Oper} {a : Act} {w : World} {b k : Nat} {ty : TypeId} {p : Operand} {cs : List Value} {d : TypeDesc} (ho : o.op = .load ty p) (hp : a.eval p = .pointer (some ⟨b, k, none⟩)) (hc : w.rangeAt b k cs) (hu : P.underlying ty = some d) (hd : d.isRow = true) (hi : (P.info? ty).map (·.size) = some cs.length) :
  (execOp a.eval o).run P w = .ok (.value (.agg cs.toArray)) w := by
 have h := run_loadAt_mid (P := P) w b k ty cs d hc hu hd hi; unfold execOp; simp only [ho, hp]
 simp [h, Sem.run_bind, Result.andThen]
def known8.R7.T : Bool × List (List Nat × List Nat) := (true, [([], []), ([], []), ([0, 1], [0, 1]), ([], []), ([2, 3], [2, 3]), ([], []), ([4, 5], [4, 5]), ([6], [6]), ([7], [7]), ([8], [8]), ([9, 8], [8, 9]), ([8, 10], [8, 10]), ([11, 8], [11]), ([12], [12]), ([13, 12], [12, 13]), ([14, 12], [12, 14]), ([15, 12], [12, 15]), ([12, 16], [12, 16]), ([17, 12], [17]), ([18], [18]), ([19, 18], [18, 19]), ([18], [18]), ([20, 21, 18], [18, 20, 21]), ([18, 22], [18, 22]), ([23, 18], [23]), ([24], [24]), ([25, 24], [24, 25]), ([24], [24]), ([26, 27, 24], [24, 26, 27]), ([24, 28], [24, 28]), ([29, 24], [29]), ([30], [30]), ([31, 30], [30, 31]), ([30], [30]), ([33, 30], [30, 33]), ([32, 34, 30], [30, 32, 34]), ([30, 35], [30, 35]), ([36, 30], [36]), ([37], [37]), ([38, 37], [37, 38]), ([39, 37], [37, 39]), ([37], [37]), ([41, 37], [37, 41]), ([42, 37], [37, 42]), ([43, 37], [37, 43]), ([40, 44, 37], [37, 40, 44]), ([37, 45], [37, 45]), ([46, 37, 0, 1, 2, 3, 4, 5, 6, 7, 8, 9, 10, 11, 12, 13, 14, 15, 16, 17, 18, 19, 20, 21, 22, 23, 24, 25, 26, 27, 28, 29, 30, 31, 32, 33, 34, 35, 36, 37, 38, 39, 40, 41, 42, 43, 44, 45, 46], [46])])
theorem known8.R7.tab : rtab .any (opsOf Try.f30 7) = known8.R7.T := by kernel_rfl
theorem known8.R7.bits : waitsOk known8.R7.T.2 [0, 0, 3, 0, 15, 0, 63, 127, 255, 511, 1023, 2047, 4095, 8191, 16383, 32767, 65535, 131071, 262143, 524287, 1048575, 524287, 4194303, 8388607, 16777215, 33554431, 67108863, 33554431, 268435455, 536870911, 1073741823, 2147483647, 4294967295, 2147483647, 10737418239, 34359738367, 68719476735, 137438953471, 274877906943, 549755813887, 1099511627775, 274877906943, 2473901162495, 6871947673599, 15668040695807, 35184372088831, 70368744177663, 140737488355327] = true := by kernel_rfl
theorem known8.calls (w : World) : Calls Try.prog 30 #[] w fun e w' => e = .returned (.bool true) /\ Below w.heap.size w w' := by
 have hu65 := Try.underlying65; have hu73 := Try.underlying73; have hu76 := Try.underlying76; have HB := Aside0.mk (Below.refl w.heap.size w); have HI65 : Aside0 ((Try.prog.info? 65).map (·.size) = some 2) := ⟨by kernel_rfl⟩
 have HI73 : Aside0 ((Try.prog.info? 73).map (·.size) = some 10) := ⟨by kernel_rfl⟩
 have HI76 : Aside0 ((Try.prog.info? 76).map (·.size) = some 7) := ⟨by kernel_rfl⟩
 go_enter Try.func30, Try.ntmps30
 go_wp2_with fail
 refine (seat_packet.calls 100 2 0 0 0 0 0 9 0 0 0 0 0 k8B _ ⟨⟨by decide, by decide⟩, by decide, by decide⟩ k8_pkt).mono ?_; rintro ev w1 ⟨vb, rfl, ho, hb⟩; have HRb := Aside0.mk (Kd.R_lower ho (below_size HB.out)); clear ho; have hb_ := hb; replace HB := mB HB hb_; clear hb_; clear hb; obtain ⟨gb, cb, rfl, hgb, _, _⟩ := Kd.R_form HRb.out (by decide); have HGb := Aside0.mk hgb; clear hgb
 (try dsimp only)
 go_wp2_with fail
 refine (rewrite_Look.via (some ⟨gb, 0, none⟩) cb k8B _ _ (Kd.R_reads' HRb.out).2.2 (Kd.R_reads' HRb.out).2.1 (k8_69 _ _ (Kd.R_reads' HRb.out).2.1)).mono ?_; rintro ev w2 hpost; obtain ⟨v8, v9, vi, rfl, ho8, ho9, hi, hb⟩ := hpost; obtain ⟨A8, c8, rfl, _, _⟩ := Kd.R_reads ho8; obtain ⟨A9, c9, rfl, _, _⟩ := Kd.R_reads ho9; obtain ⟨Aia, cia, rfl, _, _⟩ := Kd.R_reads hi; clear ho8 ho9 hi; have hb_ := hb; replace HB := mB HB hb_; replace HRb := mR HRb hb_; clear hb_; clear hb; dsimp only [LK.err, k8r, k8s]
 go_upto_region 3 with (first | ((with_reducible refine gate_dst (N := 2) rfl ?_); refine box_event ?hg_ (N := 2) ?hd_ (cs := #[.int .u8 0, .int .u8 0, .int .u8 0, .int .u16 0, .int .u8 0, .int .u16 0, .int .u32 0, .int .u32 0, .slice none 0 0, .slice none 0 0]) (t := 73) ?hr_ ?_; (case hd_ => rfl); (case hg_ => rfl); (case hr_ => first | (go_simp; done) | (go_simp; rfl)); intro g1 hgg_ w3 hbox_ hbb_; have GHXap := Aside0.mk (show w.heap.size <= g1 by rw [hgg_]; exact below_size HB.out); have HXap := Aside0.mk hbox_; have hb_ := hbb_; replace HB := mB HB hb_; replace HRb := mR HRb hb_; clear hb_; clear hgg_ hbox_ hbb_) | ((with_reducible refine gate_dst (N := 3) rfl ?_); refine box_event ?hg_ (N := 3) ?hd_ (cs := #[.int .u8 0, .int .u32 0, .int .u16 0, .int .u32 0, .int .u16 0, .int .u8 0, .slice none 0 0]) (t := 76) ?hr_ ?_; (case hd_ => rfl); (case hg_ => rfl); (case hr_ => first | (go_simp; done) | (go_simp; rfl)); intro g2 hgg_ w4 hbox_ hbb_; have GHXaf := Aside0.mk (show w.heap.size <= g2 by rw [hgg_]; exact below_size HB.out); have HXaf := Aside0.mk hbox_; have hb_ := hbb_; replace HB := mB HB hb_; replace HRb := mR HRb hb_; replace HXap := mX HXap hb_; clear hb_; clear hgg_ hbox_ hbb_) | ((refine rw_putrow rfl rfl rfl rfl rfl HXap.out HI73.out rfl (by simp [Value.oneCell']) ?_); intro w5 hs_ off_; replace HRb := oR off_ HRb HXap (by decide); replace HXaf := oX off_ HXaf HXap (by decide); replace HB := oB off_ HB GHXap; clear off_; replace HXap := Aside0.mk hs_; clear hs_) | ((refine rw_putrow rfl rfl rfl rfl rfl HXaf.out HI76.out rfl (by simp [Value.oneCell']) ?_); intro w6 hs_ off_; replace HRb := oR off_ HRb HXaf (by decide); replace HXap := oX off_ HXap HXaf (by decide); replace HB := oB off_ HB GHXaf; clear off_; replace HXaf := Aside0.mk hs_; clear hs_))
 clear HXap; clear GHXap
 (try dsimp only)
 go_wp2_with fail
 refine (rewrite_Change.via 100 (some ⟨gb, 0, none⟩) cb k8B k8r 1 9 2 9 _ k8C 0 _ (Kd.R_reads' HRb.out).2.2 (Kd.R_reads' HRb.out).2.1 (k8_69 _ _ (Kd.R_reads' HRb.out).2.1) k8_70 k8_chg).mono ?_; rintro ev w7 ⟨vc, rfl, ho, hb⟩; have HRc := Aside0.mk (Kd.R_lower ho (below_size HB.out)); clear ho; obtain ⟨Ac, cc, rfl, _, _⟩ := Kd.R_reads HRc.out; have hb_ := hb; replace HB := mB HB hb_; replace HRb := mR HRb hb_; replace HXaf := mX HXaf hb_; clear hb_; clear hb
 (try dsimp only)
 go_wp2_with fail
 refine (rewrite_Look.via Ac cc k8C _ _ (Kd.R_reads' HRc.out).2.2 (Kd.R_reads' HRc.out).2.1 (k8_69C _ _ (Kd.R_reads' HRc.out).2.1)).mono ?_; rintro ev w8 hpost; obtain ⟨v8, v9, vi, rfl, ho8, ho9, hi, hb⟩ := hpost; obtain ⟨A8, c8, rfl, _, _⟩ := Kd.R_reads ho8; obtain ⟨A9, c9, rfl, _, _⟩ := Kd.R_reads ho9; obtain ⟨Aib, cib, rfl, _, _⟩ := Kd.R_reads hi; clear ho8 ho9 hi; have hb_ := hb; replace HB := mB HB hb_; replace HRb := mR HRb hb_; replace HXaf := mX HXaf hb_; replace HRc := mR HRc hb_; clear hb_; clear hb; dsimp only [LK.err, k8r, k8s]
 go_upto_region 5 with (first | ((with_reducible refine gate_dst (N := 7) rfl ?_); refine box_event ?hg_ (N := 7) ?hd_ (cs := #[.int .u8 0, .int .u8 0, .int .u8 0, .int .u16 0, .int .u8 0, .int .u16 0, .int .u32 0, .int .u32 0, .slice none 0 0, .slice none 0 0]) (t := 73) ?hr_ ?_; (case hd_ => rfl); (case hg_ => rfl); (case hr_ => first | (go_simp; done) | (go_simp; rfl)); intro g3 hgg_ w9 hbox_ hbb_; have GHXbp := Aside0.mk (show w.heap.size <= g3 by rw [hgg_]; exact below_size HB.out); have HXbp := Aside0.mk hbox_; have hb_ := hbb_; replace HB := mB HB hb_; replace HRb := mR HRb hb_; replace HXaf := mX HXaf hb_; replace HRc := mR HRc hb_; clear hb_; clear hgg_ hbox_ hbb_) | ((with_reducible refine gate_dst (N := 8) rfl ?_); refine box_event ?hg_ (N := 8) ?hd_ (cs := #[.int .u8 0, .int .u32 0, .int .u16 0, .int .u32 0, .int .u16 0, .int .u8 0, .slice none 0 0]) (t := 76) ?hr_ ?_; (case hd_ => rfl); (case hg_ => rfl); (case hr_ => first | (go_simp; done) | (go_simp; rfl)); intro g4 hgg_ w10 hbox_ hbb_; have GHXbf := Aside0.mk (show w.heap.size <= g4 by rw [hgg_]; exact below_size HB.out); have HXbf := Aside0.mk hbox_; have NE_HXaf_HXbf : Aside0 (g2 ≠ g4) := ⟨by rw [hgg_]; exact (blk_less HXaf).out⟩; have hb_ := hbb_; replace HB := mB HB hb_; replace HRb := mR HRb hb_; replace HXaf := mX HXaf hb_; replace HRc := mR HRc hb_; replace HXbp := mX HXbp hb_; clear hb_; clear hgg_ hbox_ hbb_) | ((refine rw_putrow rfl rfl rfl rfl rfl HXbp.out HI73.out rfl (by simp [Value.oneCell']) ?_); intro w11 hs_ off_; replace HRb := oR off_ HRb HXbp (by decide); replace HXaf := oX off_ HXaf HXbp (by decide); replace HRc := oR off_ HRc HXbp (by decide); replace HXbf := oX off_ HXbf HXbp (by decide); replace HB := oB off_ HB GHXbp; clear off_; replace HXbp := Aside0.mk hs_; clear hs_) | ((refine rw_putrow rfl rfl rfl rfl rfl HXbf.out HI76.out rfl (by simp [Value.oneCell']) ?_); intro w12 hs_ off_; replace HRb := oR off_ HRb HXbf (by decide); replace HXaf := oN off_ HXaf NE_HXaf_HXbf; replace HRc := oR off_ HRc HXbf (by decide); replace HXbp := oX off_ HXbp HXbf (by decide); replace HB := oB off_ HB GHXbf; clear off_; replace HXbf := Aside0.mk hs_; clear hs_))
 clear HXbp HRc; clear GHXbp
 (try dsimp only)
 go_wp2_with fail
 refine (rewrite_Look.via none 0 [] _ _ (Kd.C_nil _ _) (Nat.le_refl _) (k8_690 _)).mono ?_; rintro ev w13 hpost; obtain ⟨v8, v9, vi, rfl, ho8, ho9, hi, hb⟩ := hpost; obtain ⟨A8, c8, rfl, _, _⟩ := Kd.R_reads ho8; obtain ⟨A9, c9, rfl, _, _⟩ := Kd.R_reads ho9; obtain ⟨Aic, cic, rfl, _, _⟩ := Kd.R_reads hi; clear ho8 ho9 hi; have hb_ := hb; replace HB := mB HB hb_; replace HRb := mR HRb hb_; replace HXaf := mX HXaf hb_; replace HXbf := mX HXbf hb_; clear hb_; clear hb; dsimp only [LK.err, k8r, k8s]
 go_upto_region 6 with (first | ((with_reducible refine gate_dst (N := 10) rfl ?_); refine box_event ?hg_ (N := 10) ?hd_ (cs := #[.int .u8 0, .int .u8 0, .int .u8 0, .int .u16 0, .int .u8 0, .int .u16 0, .int .u32 0, .int .u32 0, .slice none 0 0, .slice none 0 0]) (t := 73) ?hr_ ?_; (case hd_ => rfl); (case hg_ => rfl); (case hr_ => first | (go_simp; done) | (go_simp; rfl)); intro g5 hgg_ w14 hbox_ hbb_; have GHXcp := Aside0.mk (show w.heap.size <= g5 by rw [hgg_]; exact below_size HB.out); have HXcp := Aside0.mk hbox_; have hb_ := hbb_; replace HB := mB HB hb_; replace HRb := mR HRb hb_; replace HXaf := mX HXaf hb_; replace HXbf := mX HXbf hb_; clear hb_; clear hgg_ hbox_ hbb_) | ((with_reducible refine gate_dst (N := 11) rfl ?_); refine box_event ?hg_ (N := 11) ?hd_ (cs := #[.int .u8 0, .int .u32 0, .int .u16 0, .int .u32 0, .int .u16 0, .int .u8 0, .slice none 0 0]) (t := 76) ?hr_ ?_; (case hd_ => rfl); (case hg_ => rfl); (case hr_ => first | (go_simp; done) | (go_simp; rfl)); intro g6 hgg_ w15 hbox_ hbb_; have GHXcf := Aside0.mk (show w.heap.size <= g6 by rw [hgg_]; exact below_size HB.out); have HXcf := Aside0.mk hbox_; have NE_HXaf_HXcf : Aside0 (g2 ≠ g6) := ⟨by rw [hgg_]; exact (blk_less HXaf).out⟩; have NE_HXbf_HXcf : Aside0 (g4 ≠ g6) := ⟨by rw [hgg_]; exact (blk_less HXbf).out⟩; have hb_ := hbb_; replace HB := mB HB hb_; replace HRb := mR HRb hb_; replace HXaf := mX HXaf hb_; replace HXbf := mX HXbf hb_; replace HXcp := mX HXcp hb_; clear hb_; clear hgg_ hbox_ hbb_) | ((refine rw_putrow rfl rfl rfl rfl rfl HXcp.out HI73.out rfl (by simp [Value.oneCell']) ?_); intro w16 hs_ off_; replace HRb := oR off_ HRb HXcp (by decide); replace HXaf := oX off_ HXaf HXcp (by decide); replace HXbf := oX off_ HXbf HXcp (by decide); replace HXcf := oX off_ HXcf HXcp (by decide); replace HB := oB off_ HB GHXcp; clear off_; replace HXcp := Aside0.mk hs_; clear hs_) | ((refine rw_putrow rfl rfl rfl rfl rfl HXcf.out HI76.out rfl (by simp [Value.oneCell']) ?_); intro w17 hs_ off_; replace HRb := oR off_ HRb HXcf (by decide); replace HXaf := oN off_ HXaf NE_HXaf_HXcf; replace HXbf := oN off_ HXbf NE_HXbf_HXcf; replace HXcp := oX off_ HXcp HXcf (by decide); replace HB := oB off_ HB GHXcf; clear off_; replace HXcf := Aside0.mk hs_; clear hs_))
 clear HXcp HXcf; clear GHXcp GHXcf
 (try dsimp only)
 go_wp2_with fail
 refine (rewrite_Hop.calls 100 (some ⟨gb, 0, none⟩) cb k8B k8D 0 _ (Kd.R_reads' HRb.out).2.2 (Kd.R_reads' HRb.out).2.1 k8_hop).mono ?_; rintro ev w18 ⟨vd, rfl, ho, hb⟩; have HRd := Aside0.mk (Kd.R_lower ho (below_size HB.out)); clear ho; have hb_ := hb; replace HB := mB HB hb_; replace HRb := mR HRb hb_; replace HXaf := mX HXaf hb_; replace HXbf := mX HXbf hb_; clear hb_; clear hb; obtain ⟨gd, cd, rfl, hgd, _, _⟩ := Kd.R_form HRd.out (by decide); have HGd := Aside0.mk hgd; clear hgd
 (try dsimp only)
 go_upto_region 7 with (fail)
 have HSb : Aside0 (w18.cell? ⟨gb, 8, none⟩ = some (.int .u8 64)) := ⟨(Kd.R_celln (0 : Int) HRb.out ((8 : Nat) : Int) (by decide) (by decide)).1⟩
 have HSd : Aside0 (w18.cell? ⟨gd, 8, none⟩ = some (.int .u8 63)) := ⟨(Kd.R_celln (0 : Int) HRd.out ((8 : Nat) : Int) (by decide) (by decide)).1⟩
 refine start_ (n := 48) (S := fun w' => w'.heap[g2]? = some (.cells #[.int .u8 1, .int .u32 167772161, .int .u16 1000, .int .u32 134744072, .int .u16 1000, .int .u8 0, .slice Aia ([] : List S65).length cia] 76 (0, 0)) /\ w'.heap[g4]? = some (.cells #[.int .u8 1, .int .u32 1, .int .u16 9, .int .u32 2, .int .u16 9, .int .u8 0, .slice Aib ([] : List S65).length cib] 76 (0, 0)) /\ w'.cell? ⟨gb, 8, none⟩ = some (.int .u8 64) /\ w'.cell? ⟨gd, 8, none⟩ = some (.int .u8 63)) (ds := []) #[false, false, false, false, false, false, false, false, false, false, false, false, false, false, false, false, false, false, false, false, false, false, false, false, false, false, false, false, false, false, false, false, false, false, false, false, false, false, false, false, false, false, false, false, false, false, false, false] (by kernel_rfl) rfl rfl ⟨HXaf.out, HXbf.out, HSb.out, HSd.out⟩ (fun hHeld => ?_)
 refine with_tabW known8.R7.tab known8.R7.bits (fun HT_ HW_ => ?_); have hb_ := below_drew1 (Below.refl w18.heap.size w18); have n_HB := Aside0.mk (below_step HB.out hb_); clear HB hb_; have HB := n_HB; clear n_HB; refine pz 0 46 HT_ ?_; refine pz 1 47 HT_ ?_; refine pv 2 48 (.int .i64 0) HT_ ?_ ?_
 ·intro w'
  first | (go_simp; done) | (go_simp; rfl) | (go_simp; decide)
 refine nz 48 ?_; refine pz 3 49 HT_ ?_; refine pv 4 50 (.int .i64 0) HT_ ?_ ?_
 ·intro w'
  first | (go_simp; done) | (go_simp; rfl) | (go_simp; decide)
 refine nz 50 ?_; refine pz 5 51 HT_ ?_; refine pv 6 52 (.int .i64 0) HT_ ?_ ?_
 ·intro w'
  first | (go_simp; done) | (go_simp; rfl) | (go_simp; decide)
 refine nz 52 ?_; refine pv 7 53 (.bool true) HT_ ?_ ?_
 ·intro w'
  first | (go_simp; done) | (go_simp; rfl) | (go_simp; decide)
 refine nz 53 ?_; refine pz 8 54 HT_ ?_; refine pz 9 55 HT_ ?_; refine pv 10 56 (.bool true) HT_ ?_ ?_
 ·intro w'
  first | (go_simp; done) | (go_simp; rfl) | (go_simp; decide)
 refine nz 56 ?_; refine pv 11 57 (.bool true) HT_ ?_ ?_
 ·intro w'
  first | (go_simp; done) | (go_simp; rfl) | (go_simp; decide)
 refine nz 57 ?_; refine pz 12 58 HT_ ?_; refine pz 13 59 HT_ ?_; refine pz 14 60 HT_ ?_; refine take_ (i := 15) (N := some 61) (v := ?_) (a' := ?_) #[true, true, true, true, true, true, true, true, true, true, true, true, true, true, true, true, false, false, false, false, false, false, false, false, false, false, false, false, false, false, false, false, false, false, false, false, false, false, false, false, false, false, false, false, false, false, false, false] rfl rfl (take_ofW HT_.out HW_.out (by kernel_rfl)) (fun _ _ _ h => h) (Or.inl ⟨by rfl, ?_⟩) hHeld ?_ ?_
 rotate_left
 ·intro w' s0
  obtain ⟨s0, s1, s2, s3⟩ := s0; have s0_ := (blk_cell s0 2).trans (rfl : _ = some (.int .u16 1000 : Value))
  go_simp
  with_reducible rfl
 rotate_left
 ·simp only [ps_]
  rfl
 refine pv 16 62 (.bool true) HT_ ?_ ?_
 ·intro w'
  first | (go_simp; done) | (go_simp; rfl) | (go_simp; decide)
 refine nz 62 ?_; refine pv 17 63 (.bool true) HT_ ?_ ?_
 ·intro w'
  first | (go_simp; done) | (go_simp; rfl) | (go_simp; decide)
 refine nz 63 ?_; refine pz 18 64 HT_ ?_; refine pz 19 65 HT_ ?_; refine pz 21 67 HT_ ?_; refine tv 20 66 (.agg #[.int .u32 1, .int .u16 9]) HT_ HW_ hHeld ?_ ?_
 ·intro w' s0
  obtain ⟨s0, s1, s2, s3⟩ := s0; exact load_mid_ (p := .tmp 65) (ty := 65) (cs := [.int .u32 1, .int .u16 9]) (by rfl) (by rfl) (World.rangeAt_of_block s1 1 2) hu65 (by rfl) HI65.out
 refine nz 66 ?_; refine pv 22 68 (.bool true) HT_ ?_ ?_
 ·intro w'
  first | (go_simp; done) | (go_simp; rfl) | (go_simp; decide)
 refine nz 68 ?_; refine pv 23 69 (.bool true) HT_ ?_ ?_
 ·intro w'
  first | (go_simp; done) | (go_simp; rfl) | (go_simp; decide)
 refine nz 69 ?_; refine pz 24 70 HT_ ?_; refine pz 25 71 HT_ ?_; refine pz 27 73 HT_ ?_; refine tv 26 72 (.agg #[.int .u32 2, .int .u16 9]) HT_ HW_ hHeld ?_ ?_
 ·intro w' s0
  obtain ⟨s0, s1, s2, s3⟩ := s0; exact load_mid_ (p := .tmp 71) (ty := 65) (cs := [.int .u32 2, .int .u16 9]) (by rfl) (by rfl) (World.rangeAt_of_block s1 3 2) hu65 (by rfl) HI65.out
 refine nz 72 ?_; refine pv 28 74 (.bool true) HT_ ?_ ?_
 ·intro w'
  first | (go_simp; done) | (go_simp; rfl) | (go_simp; decide)
 refine nz 74 ?_; refine pv 29 75 (.bool true) HT_ ?_ ?_
 ·intro w'
  first | (go_simp; done) | (go_simp; rfl) | (go_simp; decide)
 refine nz 75 ?_; refine pz 30 76 HT_ ?_; refine pz 31 77 HT_ ?_; refine pz 32 78 HT_ ?_; refine pz 33 79 HT_ ?_; refine pz 34 80 HT_ ?_; refine pv 35 81 (.bool true) HT_ ?_ ?_
 ·intro w'
  first | (go_simp; done) | (go_simp; rfl) | (go_simp; decide)
 refine nz 81 ?_; refine pv 36 82 (.bool true) HT_ ?_ ?_
 ·intro w'
  first | (go_simp; done) | (go_simp; rfl) | (go_simp; decide)
 refine nz 82 ?_; refine pz 37 83 HT_ ?_; refine pz 38 84 HT_ ?_; refine pure_ (i := 39) (N := some 85) (v := ?_) (a' := ?_) #[true, true, true, true, true, true, true, true, true, true, true, true, true, true, true, true, true, true, true, true, true, true, true, true, true, true, true, true, true, true, true, true, true, true, true, true, true, true, true, true, false, false, false, false, false, false, false, false] rfl rfl (any_of HT_.out (by kernel_rfl)) (fun _ _ _ h => h) (Or.inl ⟨by rfl, ?_⟩) ?_ ?_
 rotate_left
 ·intro w'
  have z_ : ((8 : Int) < (k8D.length : Int)) = True := eq_true (by decide)
  go_simp
  with_reducible rfl
 rotate_left
 ·simp only [ps_]
  rfl
 refine pz 41 87 HT_ ?_; refine pure_ (i := 42) (N := some 88) (v := ?_) (a' := ?_) #[true, true, true, true, true, true, true, true, true, true, true, true, true, true, true, true, true, true, true, true, true, true, true, true, true, true, true, true, true, true, true, true, true, true, true, true, true, true, true, true, false, true, true, false, false, false, false, false] rfl rfl (any_of HT_.out (by kernel_rfl)) (fun _ _ _ h => h) (Or.inl ⟨by rfl, ?_⟩) ?_ ?_
 rotate_left
 ·intro w'
  have z_ : ((8 : Int) < (k8B.length : Int)) = True := eq_true (by decide)
  go_simp
  with_reducible rfl
 rotate_left
 ·simp only [ps_]
  rfl
 refine tz 40 86 HT_ HW_ hHeld ?_; refine tz 43 89 HT_ HW_ hHeld ?_; refine pv 44 90 (.int .u8 63) HT_ ?_ ?_
 ·intro w'
  first | (go_simp; done) | (go_simp; rfl) | (go_simp; decide)
 refine nz 90 ?_; refine pv 45 91 (.bool true) HT_ ?_ ?_
 ·intro w'
  first | (go_simp; done) | (go_simp; rfl) | (go_simp; decide)
 refine nz 91 ?_; refine pv 46 92 (.bool true) HT_ ?_ ?_
 ·intro w'
  first | (go_simp; done) | (go_simp; rfl) | (go_simp; decide)
 refine nz 92 ?_; refine pz 47 0 HT_ ?_; refine dz HT_ ?_; clear HT_ HW_ hHeld
 (try dsimp only)
 go_wp2
 (try simp only [Exit.inBlock, Exit.then])
 go_ret
 exact ⟨by first | rfl | decide, HB.out⟩
attribute [local go_sem] max2_int min2_int max_two min_two max_three min_three max_four min_four
def lychref1_Get16.f (l0 : List Int) (a1 : Int) : Option (Int) := if 0 <= a1 then (if a1 < (l0.length : Int) then (if 0 <= (wrap64 (a1 + 1)) then (if (wrap64 (a1 + 1)) < (l0.length : Int) then (some (Go.bits .or .u16 (IntKind.u16.wrap ((IntKind.u16.wrap (rd l0 a1)) * 256)) (IntKind.u16.wrap (rd l0 (wrap64 (a1 + 1)))))) else (none)) else (none)) else (none)) else (none)
attribute [local go_sem] max2_int min2_int max_two min_two max_three min_three max_four min_four
def lychref1_Get32.f (l0 : List Int) (a1 : Int) : Option (Int) := (lychref1_Get16.f l0 a1).bind fun t418 => ((lychref1_Get16.f l0 (wrap64 (a1 + 2))).bind fun t419 => (some (Go.bits .or .u32 ((((t418) % 4294967296) * 65536) % 4294967296) ((t419) % 4294967296))))
attribute [local go_sem] max2_int min2_int max_two min_two max_three min_three max_four min_four
attribute [local go_sem] max2_int min2_int max_two min_two max_three min_three max_four min_four
end Go.Proofs.Ytkmimamminddiaa.PB
namespace Go.Proofs.Ytkmimamminddiaa.Spec
open Go.RowKit
def IsB (l : List Int) : Prop := ∀ x ∈ l, 0 <= x /\ x <= 255
def IsW (l : List Int) : Prop := ∀ x ∈ l, 0 <= x /\ x <= 65535
theorem IsB.nil : IsB [] := fun _ h => by simp at h
theorem IsB.cons {a : Int} {l : List Int} (h : 0 <= a /\ a <= 255) (hl : IsB l) : IsB (a :: l) := fun x hx => by
 rcases List.mem_cons.1 hx with rfl | hx
 ·exact h
 ·exact hl _ hx
theorem IsB.append {l m : List Int} (h : IsB l) (hm : IsB m) : IsB (l ++ m) := fun x hx => by
 rcases List.mem_append.1 hx with hx | hx
 ·exact h _ hx
 ·exact hm _ hx
theorem IsB.left {l m : List Int} (h : IsB (l ++ m)) : IsB l := fun x hx => h x (List.mem_append.2 (.inl hx))
theorem IsB.right {l m : List Int} (h : IsB (l ++ m)) : IsB m := fun x hx => h x (List.mem_append.2 (.inr hx))
theorem IsB.take {l : List Int} (h : IsB l) (n : Nat) : IsB (l.take n) := fun x hx => h x (List.mem_of_mem_take hx)
theorem IsB.drop {l : List Int} (h : IsB l) (n : Nat) : IsB (l.drop n) := fun x hx => h x (List.mem_of_mem_drop hx)
theorem IsB.set {l : List Int} (h : IsB l) (i : Nat) {v : Int} (hv : 0 <= v /\ v <= 255) : IsB (l.set i v) := fun x hx => by
 rcases List.mem_or_eq_of_mem_set hx with hx | rfl
 ·exact h _ hx
 ·exact hv
theorem IsB.replicate (n : Nat) : IsB (List.replicate n 0) := fun x hx => by
 have := List.eq_of_mem_replicate hx
 omega
theorem IsB.getD {l : List Int} (h : IsB l) (i : Nat) : 0 <= l.getD i 0 /\ l.getD i 0 <= 255 := by
 rw [List.getD_eq_getElem?_getD]
 rcases Nat.lt_or_ge i l.length with hi | hi
 ·rw [List.getElem?_eq_getElem hi]
  exact h _ (List.getElem_mem hi)
 ·rw [List.getElem?_eq_none hi]
  simp
def words : List Int -> List Int
 | [] => []
 | [a] => [a * 256]
 | a :: b :: t => (a * 256 + b) :: words t
theorem words_isW : ∀ l : List Int, IsB l -> IsW (words l)
 | [], _ => fun _ h => by simp [words] at h
 | [a], h => fun x hx => by
  have := h a (by simp)
  simp [words] at hx
  omega
 | a :: b :: t, h => fun x hx => by
  have ha := h a (by simp); have hb := h b (by simp); have ht : IsB t := fun y hy => h y (by simp [hy])
  rcases List.mem_cons.1 (show x ∈ (a * 256 + b) :: words t from hx) with rfl | hx
  ·omega
  ·exact words_isW t ht _ hx
theorem words_length : ∀ l : List Int, (words l).length = (l.length + 1) / 2
 | [] => rfl
 | [_] => by simp [words]
 | a :: b :: t => by
  have := words_length t; simp only [words, List.length_cons, this]
  omega
theorem words_get : ∀ (l : List Int) (j : Nat), 2 * j < l.length -> (words l)[j]? = some (l.getD (2 * j) 0 * 256 + l.getD (2 * j + 1) 0)
 | [], j, h => by simp at h
 | [a], j, h => by
  have : j = 0 := by simp at h; omega
  subst this
  simp [words]
 | a :: b :: t, 0, _ => by simp [words]
 | a :: b :: t, j + 1, h => by
  have := words_get t j (by simp only [List.length_cons] at h; omega); simp only [words, List.getElem?_cons_succ, this]; rw [show 2 * (j + 1) = 2 * j + 1 + 1 from by omega]
  simp
def oadd (s x : Int) : Int := if s + x > 4294967295 then s + x - 4294967295 else s + x
def addw (s : Int) (ws : List Int) : Int := ws.foldl oadd s
def norm (n : Int) : Int := if n = 0 then 0 else (n - 1) % 65535 + 1
def isum : List Int -> Int
 | [] => 0
 | x :: t => x + isum t
theorem isum_nonneg : ∀ l : List Int, IsW l -> 0 <= isum l
 | [], _ => by simp [isum]
 | x :: t, h => by
  have := isum_nonneg t (fun y hy => h y (by simp [hy])); have := h x (by simp); simp only [isum]; omega
theorem norm_range (n : Int) (h : 0 <= n) : 0 <= norm n /\ norm n <= 65535 := by unfold norm; split <;> omega
theorem norm_small {n : Int} (h0 : 0 <= n) (h : n <= 65535) : norm n = n := by unfold norm; split <;> omega
theorem oadd_range {s x : Int} (h0 : 0 <= s) (h1 : s <= 4294967295) (hx : 0 <= x /\ x <= 65535) : 0 <= oadd s x /\ oadd s x <= 4294967295 := by
 unfold oadd; split <;> omega
theorem oadd_norm {s x r : Int} (h0 : 0 <= s) (h1 : s <= 4294967295) (hx : 0 <= x /\ x <= 65535) (hr : 0 <= r) : norm (oadd s x + r) = norm (s + x + r) := by
 unfold oadd norm
 split
 ·rw [if_neg (by omega), if_neg (by omega)]; omega
 ·rfl
theorem addw_range : ∀ (ws : List Int) (s : Int), 0 <= s -> s <= 4294967295 -> IsW ws -> 0 <= addw s ws /\ addw s ws <= 4294967295
 | [], s, h0, h1, _ => ⟨h0, h1⟩
 | x :: t, s, h0, h1, hw => by
  have hx := oadd_range h0 h1 (hw x (by simp)); exact addw_range t (oadd s x) hx.1 hx.2 (fun y hy => hw y (by simp [hy]))
theorem addw_norm : ∀ (ws : List Int) (s r : Int), 0 <= s -> s <= 4294967295 -> IsW ws -> 0 <= r -> norm (addw s ws + r) = norm (s + isum ws + r)
 | [], s, r, h0, h1, _, hr => by simp [addw, isum]
 | x :: t, s, r, h0, h1, hw, hr => by
  have hx := oadd_range h0 h1 (hw x (by simp)); have ht : IsW t := fun y hy => hw y (by simp [hy])
  have e := addw_norm t (oadd s x) r hx.1 hx.2 ht hr; have hi := isum_nonneg t ht; have e2 := oadd_norm (r := isum t + r) h0 h1 (hw x (by simp)) (by omega)
  show norm (addw (oadd s x) t + r) = norm (s + (x + isum t) + r)
  rw [e, show oadd s x + isum t + r = oadd s x + (isum t + r) from by omega, e2]
  congr 1; omega
theorem norm_addw (ws : List Int) (s : Int) (h0 : 0 <= s) (h1 : s <= 4294967295) (hw : IsW ws) : norm (addw s ws) = norm (s + isum ws) := by
 have := addw_norm ws s 0 h0 h1 hw (by omega)
 simpa using this
def ck (l : List Int) : Int := 65535 - norm (isum (words l))
theorem ck_range (l : List Int) (h : IsB l) : 0 <= ck l /\ ck l <= 65535 := by
 have := norm_range _ (isum_nonneg _ (words_isW l h)); unfold ck; omega
theorem wraps_u16 (n : Int) (h₀ : 0 <= n) (h₁ : n < 2 ^ 16) : IntKind.u16.wrap n = n := by rw [IntKind.wrap_u16]; omega
theorem wraps_u32 (n : Int) (h₀ : 0 <= n) (h₁ : n < 2 ^ 32) : IntKind.u32.wrap n = n := by rw [IntKind.wrap_u32]; omega
theorem u16w {n : Int} (h₀ : 0 <= n) (h₁ : n <= 65535) : IntKind.u16.wrap n = n := wraps_u16 n h₀ (by omega)
theorem u64w {n : Int} (h₀ : 0 <= n) (h₁ : n <= 18446744073709551615) : IntKind.u64.wrap n = n := by rw [IntKind.wrap_u64]; omega
theorem and_u8 (i : Nat) (hi : i <= 8) {x : Int} (h₀ : 0 <= x) (h₁ : x <= 255) : Go.bits .and .u8 x (2 ^ i - 1) = x % 2 ^ i := bits_mask .u8 8 (by decide) wraps_u8 i hi x h₀ (by omega)
theorem and_u32 (i : Nat) (hi : i <= 32) {x : Int} (h₀ : 0 <= x) (h₁ : x <= 4294967295) : Go.bits .and .u32 x (2 ^ i - 1) = x % 2 ^ i := bits_mask .u32 32 (by decide) wraps_u32 i hi x h₀ (by omega)
theorem or_u8 (i : Nat) {x y : Int} (hx₀ : 0 <= x) (hx : x % 2 ^ i = 0) (hx₁ : x <= 255) (hy₀ : 0 <= y) (hy : y < 2 ^ i) (hy₁ : y <= 255) : Go.bits .or .u8 x y = x + y := bits_join .u8 8 (by decide) wraps_u8 i x y hx₀ hx (by omega) hy₀ hy (by omega)
theorem or_u16 (i : Nat) {x y : Int} (hx₀ : 0 <= x) (hx : x % 2 ^ i = 0) (hx₁ : x <= 65535) (hy₀ : 0 <= y) (hy : y < 2 ^ i) (hy₁ : y <= 65535) : Go.bits .or .u16 x y = x + y := bits_join .u16 16 (by decide) wraps_u16 i x y hx₀ hx (by omega) hy₀ hy (by omega)
theorem or_u32 (i : Nat) {x y : Int} (hx₀ : 0 <= x) (hx : x % 2 ^ i = 0) (hx₁ : x <= 4294967295) (hy₀ : 0 <= y) (hy : y < 2 ^ i) (hy₁ : y <= 4294967295) : Go.bits .or .u32 x y = x + y := bits_join .u32 32 (by decide) wraps_u32 i x y hx₀ hx (by omega) hy₀ hy (by omega)
theorem and_65535 {x : Int} (h₀ : 0 <= x) (h₁ : x <= 4294967295) : Go.bits .and .u32 x 65535 = x % 65536 := and_u32 16 (by decide) h₀ h₁
theorem join16 {a b : Int} (ha : 0 <= a /\ a <= 255) (hb : 0 <= b /\ b <= 255) : Go.bits .or .u16 (a * 256) b = a * 256 + b := or_u16 8 (by omega) (by omega) (by omega) (by omega) (by omega) (by omega)
theorem not_u16 {x : Int} (h₀ : 0 <= x) (h₁ : x <= 65535) : Go.bits .xor .u16 65535 x = 65535 - x := by
 obtain ⟨a, rfl⟩ := Int.eq_ofNat_of_zero_le h₀; have ha : a < 65536 := by omega
 rw [show (65535 : Int) = ((65535 : Nat) : Int) from rfl, Go.u16_xor_nat 65535 a (by decide) ha]
 have : (65535 ^^^ a : Nat) = 65535 - a := by
  have h1 := BitVec.toNat_not (x := BitVec.ofNat 16 a)
  have h2 : (~~~ (BitVec.ofNat 16 a)) = BitVec.ofNat 16 65535 ^^^ BitVec.ofNat 16 a := by
   rw [show BitVec.ofNat 16 65535 = BitVec.allOnes 16 from rfl, BitVec.allOnes_xor]
  rw [h2, BitVec.toNat_xor, BitVec.toNat_ofNat, BitVec.toNat_ofNat, Nat.mod_eq_of_lt (show 65535 < 2 ^ 16 from by decide), Nat.mod_eq_of_lt (show a < 2 ^ 16 from ha)] at h1
  rw [h1]
 rw [this]
 omega
theorem wrap64_id {n : Int} (h₀ : -9223372036854775808 <= n) (h₁ : n <= 9223372036854775807) : wrap64 n = n := by unfold wrap64; omega
theorem words_set2 : ∀ (l : List Int) (t : Nat) (a b : Int), 2 * t + 1 < l.length -> words ((l.set (2 * t) a).set (2 * t + 1) b) = (words l).set t (a * 256 + b)
 | [], t, a, b, h => by simp at h
 | [x], t, a, b, h => by simp at h
 | x :: y :: l, 0, a, b, h => by simp [words]
 | x :: y :: l, t + 1, a, b, h => by
  have := words_set2 l t a b (by simp only [List.length_cons] at h; omega); rw [show 2 * (t + 1) = 2 * t + 1 + 1 from by omega]; simp only [List.set_cons_succ, words, this]
theorem isum_set : ∀ (ws : List Int) (t : Nat) (v : Int), t < ws.length -> isum (ws.set t v) = isum ws - ws.getD t 0 + v
 | [], t, v, h => by simp at h
 | x :: ws, 0, v, h => by simp [isum]; omega
 | x :: ws, t + 1, v, h => by
  have := isum_set ws t v (by simp only [List.length_cons] at h; omega); simp only [List.set_cons_succ, isum, this, List.getD_cons_succ]; omega
def wordAt (l : List Int) (t : Nat) : Int := l.getD (2 * t) 0 * 256 + l.getD (2 * t + 1) 0
theorem wordAt_eq (l : List Int) (t : Nat) (h : 2 * t < l.length) : (words l).getD t 0 = wordAt l t := by
 rw [List.getD_eq_getElem?_getD, words_get l t h]; rfl
theorem isum_change (l : List Int) (t : Nat) (a b : Int) (h : 2 * t + 1 < l.length) :
  isum (words ((l.set (2 * t) a).set (2 * t + 1) b)) = isum (words l) - wordAt l t + (a * 256 + b) := by
 have hl := words_length l; rw [words_set2 l t a b h, isum_set _ _ _ (by omega), wordAt_eq l t (by omega)]
theorem stands {S : Int} (h : 0 <= S) : norm (S + (65535 - norm S)) = 65535 := by
 unfold norm
 split
 ·rw [if_neg (by omega)]; omega
 ·rw [if_neg (by omega)]; omega
end Go.Proofs.Ytkmimamminddiaa.Spec
namespace Go.Proofs.Ytkmimamminddiaa.BytesEq
open Go.RowKit Go.Proofs.Ytkmimamminddiaa.PB Go.Proofs.YtkmimamminddiaaW.PrintWords Go.Proofs.YtkmimamminddiaaW.PrintLast Go.Proofs.Ytkmimamminddiaa.Spec
theorem rd_nat (l : List Int) (i : Int) (j : Nat) (h : i = (j : Int)) : rd l i = l.getD j 0 := by subst h; simp [rd]
theorem u8_wf {x : Int} (h : (Lit.int .u8 x).wf = true) : 0 <= x /\ x <= 255 := by
 simp [Lit.wf, IntKind.min, IntKind.max, IntKind.bits, IntKind.signed] at h; omega
theorem u16_wf {x : Int} (h : (Lit.int .u16 x).wf = true) : 0 <= x /\ x <= 65535 := by
 simp [Lit.wf, IntKind.min, IntKind.max, IntKind.bits, IntKind.signed] at h; omega
theorem u32_wf {x : Int} (h : (Lit.int .u32 x).wf = true) : 0 <= x /\ x <= 4294967295 := by
 simp [Lit.wf, IntKind.min, IntKind.max, IntKind.bits, IntKind.signed] at h; omega
def g16 (l : List Int) (i : Nat) : Int := l.getD i 0 * 256 + l.getD (i + 1) 0
def g32 (l : List Int) (i : Nat) : Int := g16 l i * 65536 + g16 l (i + 2)
theorem g16_range {l : List Int} (h : IsB l) (i : Nat) : 0 <= g16 l i /\ g16 l i <= 65535 := by
 have h1 := h.getD i; have h2 := h.getD (i + 1); unfold g16; omega
theorem g32_range {l : List Int} (h : IsB l) (i : Nat) : 0 <= g32 l i /\ g32 l i <= 4294967295 := by
 have h1 := g16_range h i; have h2 := g16_range h (i + 2); unfold g32; omega
theorem word16 {a b : Int} (ha : 0 <= a /\ a <= 255) (hb : 0 <= b /\ b <= 255) : Go.bits .or .u16 (IntKind.u16.wrap ((IntKind.u16.wrap a) * 256)) (IntKind.u16.wrap b) = a * 256 + b := by
 rw [u16w (n := a) (by omega) (by omega), u16w (n := a * 256) (by omega) (by omega), u16w (n := b) (by omega) (by omega), join16 ha hb]
theorem word32 {a b : Int} (ha : 0 <= a /\ a <= 65535) (hb : 0 <= b /\ b <= 65535) : Go.bits .or .u32 (((a % 4294967296) * 65536) % 4294967296) (b % 4294967296) = a * 65536 + b := by
 rw [show a % 4294967296 = a from by omega, show (a * 65536) % 4294967296 = a * 65536 from by omega, show b % 4294967296 = b from by omega]; exact or_u32 16 (by omega) (by omega) (by omega) (by omega) (by omega) (by omega)
theorem get16_eq {l : List Int} (h : IsB l) (i : Nat) (hi : i + 2 <= l.length) (hl : l.length <= 1000000000) : lychref1_Get16.f l (i : Int) = some (g16 l i) := by
 unfold lychref1_Get16.f; have e : wrap64 ((i : Int) + 1) = ((i + 1 : Nat) : Int) := by rw [wrap64_id (by omega) (by omega)]; omega
 rw [e, if_pos (by omega), if_pos (by omega), if_pos (by omega), if_pos (by omega), rd_nat l _ i rfl, rd_nat l _ (i + 1) rfl, word16 (h.getD i) (h.getD (i + 1))]
 rfl
theorem clone_eq (l : List Int) (hl : l.length <= 1000000000) : slices_Clone_byte_byte.f l = some l := by
 unfold slices_Clone_byte_byte.f; rw [if_pos (by omega)]
theorem get32_eq {l : List Int} (h : IsB l) (i : Nat) (hi : i + 4 <= l.length) (hl : l.length <= 1000000000) : lychref1_Get32.f l (i : Int) = some (g32 l i) := by
 unfold lychref1_Get32.f; have e : wrap64 ((i : Int) + 2) = ((i + 2 : Nat) : Int) := by rw [wrap64_id (by omega) (by omega)]; omega
 rw [e, get16_eq h i (by omega) hl, get16_eq h (i + 2) (by omega) hl]; simp only [Option.bind_some]; rw [word32 (g16_range h i) (g16_range h (i + 2))]
 rfl
end Go.Proofs.Ytkmimamminddiaa.BytesEq
namespace Go.Proofs.Ytkmimamminddiaa.Pure
open Go.RowKit Go.Proofs.Ytkmimamminddiaa.PB Go.Proofs.YtkmimamminddiaaW.PrintWords Go.Proofs.YtkmimamminddiaaW.PrintLast
open Go.Proofs.Ytkmimamminddiaa.Spec Go.Proofs.Ytkmimamminddiaa.BytesEq
def thead (s d q a f w c u : Int) (o : List Int) : List Int := [s / 256 % 256, s % 256, d / 256 % 256, d % 256, q / 16777216 % 256, q / 65536 % 256, q / 256 % 256, q % 256, a / 16777216 % 256, a / 65536 % 256, a / 256 % 256, a % 256, (20 + (o.length : Int)) / 4 * 16 % 256, f, w / 256 % 256, w % 256, c / 256 % 256, c % 256, u / 256 % 256, u % 256]
def tbytes (s d q a f w c u : Int) (o l : List Int) : List Int := thead s d q a f w c u o ++ (o ++ l)
def tout (s d q a f w c u : Int) (o l : List Int) : List Int × Int := if (o.length : Int) % 4 ≠ 0 \/ (o.length : Int) > 40 then ([], 21) else if 20 + (o.length : Int) + (l.length : Int) > 65515 then ([], 23) else (tbytes s d q a f w c u o l, 0)
theorem rtbytes_eq {s d q a f w c u : Int} {o l : List Int} (ho : o.length <= 1000000000) (hl : l.length <= 1000000000) (k : Nat) (hk : 30 <= k) : lychref1_TcpBytes.f k s d q a f w c u o l = some (tout s d q a f w c u o l) := by
 obtain ⟨k, rfl⟩ : ∃ j, k = j + 30 := ⟨k - 30, by omega⟩
 have w1 : wrap64 (20 + (o.length : Int)) = 20 + (o.length : Int) := wrap64_id (by omega) (by omega); unfold lychref1_TcpBytes.f tout
 by_cases c1 : (o.length : Int) % 4 = 0
 ·rw [if_pos c1]
  by_cases c2 : (o.length : Int) > 40
  ·rw [decide_eq_true c2, if_pos (.inr c2), lychref1_TcpBytes.j0, if_pos rfl]
  ·have w2 : wrap64 (65515 - (20 + (o.length : Int))) = 65515 - (20 + (o.length : Int)) := wrap64_id (by omega) (by omega)
   rw [decide_eq_false c2, if_neg (by omega), lychref1_TcpBytes.j0, if_neg (by decide), w1, w2]
   by_cases c3 : 20 + (o.length : Int) + (l.length : Int) > 65515
   ·rw [if_pos (by omega), if_pos c3]
   ·have w3 : wrap64 (Int.tdiv (20 + (o.length : Int)) 4) = (20 + (o.length : Int)) / 4 := by rw [Int.tdiv_eq_ediv_of_nonneg (by omega), wrap64_id (by omega) (by omega)]
    have e : (20 + (o.length : Int)) / 4 % 256 * 16 % 256 = (20 + (o.length : Int)) / 4 * 16 % 256 := by omega
    rw [if_neg (by omega), if_neg c3, w3, e]; unfold lychref1_Put16.f lychref1_Put32.f; rw [Option.bind_some, if_pos (by simp), Option.bind_some, Option.bind_some, if_pos (by simp), Option.bind_some, Option.bind_some, if_pos (by simp), Option.bind_some, Option.bind_some, if_pos (by simp), Option.bind_some, Option.bind_some, if_pos (by simp), Option.bind_some, if_pos (by simp), Option.bind_some, Option.bind_some, if_pos (by simp), Option.bind_some, Option.bind_some, if_pos (by simp), Option.bind_some, if_pos (by simp; omega), Option.bind_some, if_pos (by simp; omega), List.append_assoc]
    rfl
 ·rw [if_neg c1, if_pos (.inl c1), lychref1_TcpBytes.j0, if_pos rfl]
theorem thead_isB {s d q a f w c u : Int} {o : List Int} (hf : 0 <= f /\ f <= 255) : IsB (thead s d q a f w c u o) := by
 unfold thead
 repeat (first | exact .nil | refine .cons (by omega) ?_)
theorem thead_length (s d q a f w c u : Int) (o : List Int) : (thead s d q a f w c u o).length = 20 := rfl
end Go.Proofs.Ytkmimamminddiaa.Pure
namespace Go.Proofs.Ytkmimamminddiaa.SumEq
open Go.RowKit Go.Proofs.Ytkmimamminddiaa.PB Go.Proofs.YtkmimamminddiaaW.PrintWords Go.Proofs.YtkmimamminddiaaW.PrintLast Go.Proofs.Ytkmimamminddiaa.Spec
theorem rd_at (l : List Int) (i : Int) (j : Nat) (h : i = (j : Int)) : rd l i = l.getD j 0 := by subst h; simp [rd]
theorem take_words (l : List Int) (j : Nat) (h : 2 * j < l.length) : (words l).take (j + 1) = (words l).take j ++ [l.getD (2 * j) 0 * 256 + l.getD (2 * j + 1) 0] := by
 have hl := words_length l; have hg := words_get l j h; have hj : j < (words l).length := by omega
 rw [List.getElem?_eq_getElem hj] at hg
 injection hg with hg
 rw [List.take_succ_eq_append_getElem hj, hg]
theorem words_l0 (l : List Int) (hb : IsB l) (hl : l.length <= 1000000000) (d : Nat) : ∀ (k j : Nat), j + d = (l.length + 1) / 2 -> d < k ->
  sum_Words.l0 k l ((words l).take j) (((l.length + 1) / 2 : Nat) : Int) (j : Int) = some (words l) := by
 induction d with
 | zero =>
  intro k j hj hk; obtain ⟨k, rfl⟩ : ∃ m, k = m + 1 := ⟨k - 1, by omega⟩
  simp only [sum_Words.l0]; rw [if_neg (by omega), List.take_of_length_le (by rw [words_length]; omega)]
 | succ d ih =>
  intro k j hj hk; obtain ⟨k, rfl⟩ : ∃ m, k = m + 1 := ⟨k - 1, by omega⟩
  have e2 : wrap64 (2 * (j : Int)) = ((2 * j : Nat) : Int) := by rw [wrap64_id (by omega) (by omega)]; omega
  have e3 : wrap64 (((2 * j : Nat) : Int) + 1) = ((2 * j + 1 : Nat) : Int) := by rw [wrap64_id (by omega) (by omega)]; omega
  have e1 : wrap64 ((j : Int) + 1) = ((j + 1 : Nat) : Int) := by rw [wrap64_id (by omega) (by omega)]; omega
  have h1 := hb.getD (2 * j); have h2 := hb.getD (2 * j + 1); have hlen : ((words l).take j).length < 70368744177664 := by rw [List.length_take, words_length]; omega
  have ht := take_words l j (by omega); have hi := ih k (j + 1) (by omega) (by omega); simp only [sum_Words.l0, e2, e3, e1]; rw [if_pos (by omega), if_pos (by omega), if_pos (by omega), rd_at l _ (2 * j) rfl, rd_at l _ (2 * j + 1) rfl]; rw [u16w (by omega) (by omega : l.getD (2 * j) 0 <= 65535), u16w (by omega) (by omega : l.getD (2 * j) 0 * 256 <= 65535), u16w (by omega) (by omega : l.getD (2 * j + 1) 0 <= 65535), join16 h1 h2]
  by_cases hc : 2 * j + 1 < l.length
  ·rw [if_pos (by omega), if_pos (by omega), if_pos hlen, <- ht]
   exact hi
  ·have h0 : l.getD (2 * j + 1) 0 = 0 := by rw [List.getD_eq_getElem?_getD, List.getElem?_eq_none (by omega)]; rfl
   rw [if_neg (by omega), if_pos hlen]; rw [h0, Int.add_zero] at ht
   rw [<- ht]; exact hi
theorem words_eq (l : List Int) (hb : IsB l) (hl : l.length <= 1000000000) (k : Nat) (hk : l.length + 1 < k) : sum_Words.f k l = some (words l) := by
 have h := words_l0 l hb hl ((l.length + 1) / 2) k 0 (by omega) (by omega); unfold sum_Words.f
 have e : wrap64 (Int.tdiv (wrap64 ((l.length : Int) + 1)) 2) = (((l.length + 1) / 2 : Nat) : Int) := by
  rw [wrap64_id (n := (l.length : Int) + 1) (by omega) (by omega), Int.tdiv_eq_ediv_of_nonneg (by omega), wrap64_id (by omega) (by omega)]; omega
 rw [e]
 simpa using h
theorem Add32_eq {a b : Int} (ha : 0 <= a /\ a <= 4294967295) (hb : 0 <= b /\ b <= 65535) : bits_Add32.f a b 0 = some ((a + b) % 4294967296, (a + b) / 4294967296) := by
 unfold bits_Add32.f; rw [u64w ha.1 (by omega), u64w hb.1 (by omega), u64w (n := a + b) (by omega) (by omega), u64w (n := (0 : Int)) (by omega) (by omega), u64w (n := a + b + 0) (by omega) (by omega)]; rw [Int.add_zero, show ((a + b) / 4294967296) % 4294967296 = (a + b) / 4294967296 from by omega]
theorem add_l0 (ws : List Int) (hw : IsW ws) (hl : ws.length <= 1000000000) (d : Nat) : ∀ (k j : Nat) (s : Int), j + d = ws.length -> d < k -> 0 <= s -> s <= 4294967295 ->
  sum_Add.l0 k s ws (ws.length : Int) (j : Int) = some (addw s (ws.drop j)) := by
 induction d with
 | zero =>
  intro k j s hj hk h0 h1; obtain ⟨k, rfl⟩ : ∃ m, k = m + 1 := ⟨k - 1, by omega⟩
  simp only [sum_Add.l0]; rw [if_neg (by omega), List.drop_of_length_le (by omega)]
  rfl
 | succ d ih =>
  intro k j s hj hk h0 h1; obtain ⟨k, rfl⟩ : ∃ m, k = m + 1 := ⟨k - 1, by omega⟩
  have hjl : j < ws.length := by omega
  have hx := hw _ (List.getElem_mem hjl); have e1 : wrap64 ((j : Int) + 1) = ((j + 1 : Nat) : Int) := by rw [wrap64_id (by omega) (by omega)]; omega
  have er : rd ws (j : Int) = ws[j] := by rw [rd_at ws _ j rfl, List.getD_eq_getElem?_getD, List.getElem?_eq_getElem hjl]; rfl
  have ho := oadd_range h0 h1 hx; have hi := ih k (j + 1) (oadd s ws[j]) (by omega) (by omega) ho.1 ho.2; simp only [sum_Add.l0, e1, er]; rw [if_pos (by omega), if_pos (by omega), if_pos (by omega), show ws[j] % 4294967296 = ws[j] from by omega, Add32_eq ⟨h0, h1⟩ hx]; simp only [Option.bind_some]; have eo : ((s + ws[j]) % 4294967296 + (s + ws[j]) / 4294967296) % 4294967296 = oadd s ws[j] := by unfold oadd; split <;> omega
  rw [eo, hi, List.drop_eq_getElem_cons hjl]
  rfl
theorem add_eq (s : Int) (l : List Int) (hb : IsB l) (hl : l.length <= 1000000000) (h0 : 0 <= s) (h1 : s <= 4294967295) (k : Nat) (hk : l.length + 1 < k) : sum_Add.f k s l = some (addw s (words l)) := by
 unfold sum_Add.f; rw [words_eq l hb hl k hk]; have hwl := words_length l; have := add_l0 (words l) (words_isW l hb) (by omega) (words l).length k 0 s (by omega) (by omega) h0 h1
 simpa using this
theorem fold_small {k : Nat} {s : Int} (h0 : 0 <= s) (h1 : s <= 65535) : sum_Fold.l0 (k + 1) s = some s := by
 simp only [sum_Fold.l0]; rw [if_pos (by omega), u16w h0 h1]
theorem fold_step {k : Nat} {s : Int} (h0 : 65536 <= s) (h1 : s <= 4294967295) : sum_Fold.l0 (k + 1) s = sum_Fold.l0 k (s % 65536 + s / 65536) := by
 simp only [sum_Fold.l0]; rw [if_neg (by omega), and_65535 (by omega) h1, show (s % 65536 + s / 65536) % 4294967296 = s % 65536 + s / 65536 from by omega]
theorem fold_eq (s : Int) (h0 : 0 <= s) (h1 : s <= 4294967295) (k : Nat) (hk : 3 < k) : sum_Fold.f k s = some (norm s) := by
 obtain ⟨k, rfl⟩ : ∃ m, k = m + 3 := ⟨k - 3, by omega⟩
 unfold sum_Fold.f
 by_cases c : s <= 65535
 ·rw [fold_small h0 c, norm_small h0 c]
 ·rw [fold_step (by omega) h1]
  by_cases c2 : s % 65536 + s / 65536 <= 65535
  ·rw [fold_small (by omega) c2]
   congr 1; unfold norm; rw [if_neg (by omega)]; omega
  ·rw [fold_step (by omega) (by omega), fold_small (by omega) (by omega)]
   congr 1; unfold norm; rw [if_neg (by omega)]; omega
theorem rwords_l0 (l : List Int) (hb : IsB l) (hl : l.length <= 1000000000) (d : Nat) : ∀ (k j : Nat), j + d = (l.length + 1) / 2 -> d < k ->
  lychref1_Words.l0 k l ((words l).take j) ((2 * j : Nat) : Int) = some (words l) := by
 induction d with
 | zero =>
  intro k j hj hk; obtain ⟨k, rfl⟩ : ∃ m, k = m + 1 := ⟨k - 1, by omega⟩
  simp only [lychref1_Words.l0]; rw [if_neg (by omega), List.take_of_length_le (by rw [words_length]; omega)]
 | succ d ih =>
  intro k j hj hk; obtain ⟨k, rfl⟩ : ∃ m, k = m + 1 := ⟨k - 1, by omega⟩
  have e3 : wrap64 (((2 * j : Nat) : Int) + 1) = ((2 * j + 1 : Nat) : Int) := by rw [wrap64_id (by omega) (by omega)]; omega
  have e1 : wrap64 (((2 * j : Nat) : Int) + 2) = ((2 * (j + 1) : Nat) : Int) := by rw [wrap64_id (by omega) (by omega)]; omega
  have h1 := hb.getD (2 * j); have h2 := hb.getD (2 * j + 1); have hlen : ((words l).take j).length < 70368744177664 := by rw [List.length_take, words_length]; omega
  have ht := take_words l j (by omega); have hi := ih k (j + 1) (by omega) (by omega); simp only [lychref1_Words.l0, e3, e1]; rw [if_pos (by omega), if_pos (by omega), rd_at l _ (2 * j) rfl, rd_at l _ (2 * j + 1) rfl]; rw [u16w (by omega) (by omega : l.getD (2 * j) 0 <= 65535), u16w (by omega) (by omega : l.getD (2 * j) 0 * 256 <= 65535), u16w (by omega) (by omega : l.getD (2 * j + 1) 0 <= 65535), join16 h1 h2]
  by_cases hc : 2 * j + 1 < l.length
  ·rw [if_pos (by omega), if_pos (by omega), if_pos hlen, <- ht]
   exact hi
  ·have h0 : l.getD (2 * j + 1) 0 = 0 := by rw [List.getD_eq_getElem?_getD, List.getElem?_eq_none (by omega)]; rfl
   rw [if_neg (by omega), if_pos hlen]; rw [h0, Int.add_zero] at ht
   rw [<- ht]; exact hi
theorem rwords_eq (l : List Int) (hb : IsB l) (hl : l.length <= 1000000000) (k : Nat) (hk : l.length + 1 < k) : lychref1_Words.f k l = some (words l) := by
 have h := rwords_l0 l hb hl ((l.length + 1) / 2) k 0 (by omega) (by omega); unfold lychref1_Words.f
 simpa using h
theorem radd_l0 (ws : List Int) (hw : IsW ws) (hl : ws.length <= 1000000000) (d : Nat) : ∀ (k j : Nat) (s : Int), j + d = ws.length -> d < k -> 0 <= s -> s <= 4294967295 ->
  lychref1_Add.l0 k s ws (j : Int) = some (addw s (ws.drop j)) := by
 induction d with
 | zero =>
  intro k j s hj hk h0 h1; obtain ⟨k, rfl⟩ : ∃ m, k = m + 1 := ⟨k - 1, by omega⟩
  simp only [lychref1_Add.l0]; rw [if_neg (by omega), List.drop_of_length_le (by omega), show s % 4294967296 = s from by omega]
  rfl
 | succ d ih =>
  intro k j s hj hk h0 h1; obtain ⟨k, rfl⟩ : ∃ m, k = m + 1 := ⟨k - 1, by omega⟩
  have hjl : j < ws.length := by omega
  have hx := hw _ (List.getElem_mem hjl); have e1 : wrap64 ((j : Int) + 1) = ((j + 1 : Nat) : Int) := by rw [wrap64_id (by omega) (by omega)]; omega
  have er : rd ws (j : Int) = ws[j] := by rw [rd_at ws _ j rfl, List.getD_eq_getElem?_getD, List.getElem?_eq_getElem hjl]; rfl
  have ho := oadd_range h0 h1 hx; have hi := ih k (j + 1) (oadd s ws[j]) (by omega) (by omega) ho.1 ho.2; simp only [lychref1_Add.l0, e1, er]; rw [if_pos (by omega), if_pos (by omega), u64w (n := ws[j]) (by omega) (by omega), u64w (n := s + ws[j]) (by omega) (by omega)]; rw [List.drop_eq_getElem_cons hjl]
  show _ = some (addw (oadd s ws[j]) (ws.drop (j + 1)))
  rw [<- hi]
  by_cases hc : s + ws[j] > 4294967295
  ·rw [if_pos hc]
   congr 1
   rw [IntKind.wrap_u64, IntKind.wrap_u64]; unfold oadd; rw [if_pos hc]; omega
  ·rw [if_neg hc]
   congr 1; unfold oadd; rw [if_neg hc]
theorem radd_eq (s : Int) (l : List Int) (hb : IsB l) (hl : l.length <= 1000000000) (h0 : 0 <= s) (h1 : s <= 4294967295) (k : Nat) (hk : l.length + 1 < k) : lychref1_Add.f k s l = some (addw s (words l)) := by
 unfold lychref1_Add.f; rw [rwords_eq l hb hl k hk]; have hwl := words_length l; have := radd_l0 (words l) (words_isW l hb) (by omega) (words l).length k 0 s (by omega) (by omega) h0 h1; simp only [Option.bind_some, u64w h0 (show s <= 18446744073709551615 from by omega)]
 simpa using this
theorem rfold_eq (s : Int) (h0 : 0 <= s) (h1 : s <= 4294967295) (k : Nat) (hk : 3 < k) : lychref1_Fold.f k s = some (norm s) := by
 have hs : ∀ {k : Nat} {s : Int}, 0 <= s -> s <= 65535 -> lychref1_Fold.l0 (k + 1) s = some s := by
  intro k s h0 h1; simp only [lychref1_Fold.l0]; rw [if_pos (by omega), u16w h0 h1]
 have ht : ∀ {k : Nat} {s : Int}, 65536 <= s -> s <= 4294967295 -> lychref1_Fold.l0 (k + 1) s = lychref1_Fold.l0 k (s / 65536 + s % 65536) := by
  intro k s h0 h1; simp only [lychref1_Fold.l0]; rw [if_neg (by omega), and_65535 (by omega) h1, show (s / 65536 + s % 65536) % 4294967296 = s / 65536 + s % 65536 from by omega]
 obtain ⟨k, rfl⟩ : ∃ m, k = m + 3 := ⟨k - 3, by omega⟩
 unfold lychref1_Fold.f
 by_cases c : s <= 65535
 ·rw [hs h0 c, norm_small h0 c]
 ·rw [ht (by omega) h1]
  by_cases c2 : s / 65536 + s % 65536 <= 65535
  ·rw [hs (by omega) c2]
   congr 1; unfold norm; rw [if_neg (by omega)]; omega
  ·rw [ht (by omega) (by omega), hs (by omega) (by omega)]
   congr 1; unfold norm; rw [if_neg (by omega)]; omega
theorem pseudo_eq (a b c n : Int) (ha : 0 <= a /\ a <= 4294967295) (hb : 0 <= b /\ b <= 4294967295) (hc : 0 <= c /\ c <= 255) (k : Nat) (hk : 3 < k) :
  sum_Pseudo.f k a b c n = some (norm (a / 65536 + a % 65536 + b / 65536 + b % 65536 + c + n % 65536)) := by
 unfold sum_Pseudo.f; rw [and_65535 ha.1 ha.2, and_65535 hb.1 hb.2, IntKind.wrap_u16, fold_eq _ (by omega) (by omega) k hk]; simp only [Option.bind_some]; have := norm_range (a / 65536 + a % 65536 + b / 65536 + b % 65536 + c + n % 65536) (by omega); rw [show (a / 65536 + a % 65536 + b / 65536 + b % 65536 + c + n % 65536) % 4294967296 = a / 65536 + a % 65536 + b / 65536 + b % 65536 + c + n % 65536 from by omega]
 congr 1; omega
theorem rpseudo_eq (a b c n : Int) (ha : 0 <= a /\ a <= 4294967295) (hb : 0 <= b /\ b <= 4294967295) (hc : 0 <= c /\ c <= 255) (k : Nat) (hk : 3 < k) :
  lychref1_Pseudo.f k a b c n = some (norm (a / 65536 + a % 65536 + b / 65536 + b % 65536 + c + n % 65536)) := by
 have e64 : Go.bits .and .u64 (IntKind.u64.wrap n) 65535 = n % 65536 := by
  rw [IntKind.wrap_u64, show (65535 : Int) = 2 ^ 16 - 1 from by decide, bits_mask .u64 64 (by decide) (fun m h0 h1 => by rw [IntKind.wrap_u64]; omega) 16 (by decide) _ (by omega) (by omega)]
  omega
 unfold lychref1_Pseudo.f; rw [and_65535 ha.1 ha.2, and_65535 hb.1 hb.2, e64, rfold_eq _ (by omega) (by omega) k hk]; simp only [Option.bind_some]; have := norm_range (a / 65536 + a % 65536 + b / 65536 + b % 65536 + c + n % 65536) (by omega); rw [show (a / 65536 + a % 65536 + b / 65536 + b % 65536 + c + n % 65536) % 4294967296 = a / 65536 + a % 65536 + b / 65536 + b % 65536 + c + n % 65536 from by omega]
 congr 1; omega
theorem of_eq (l : List Int) (hb : IsB l) (hl : l.length <= 1000000000) (k : Nat) (hk : l.length + 1 < k) (hk3 : 3 < k) : sum_Of.f k l = some (ck l) := by
 have hr := addw_range (words l) 0 (by omega) (by omega) (words_isW l hb); have hn := norm_addw (words l) 0 (by omega) (by omega) (words_isW l hb); have hp := norm_range _ (isum_nonneg _ (words_isW l hb)); unfold sum_Of.f; rw [add_eq 0 l hb hl (by omega) (by omega) k hk]; simp only [Option.bind_some]; rw [fold_eq _ hr.1 hr.2 k hk3, hn, Int.zero_add]; simp only [Option.bind_some]; rw [show (IntKind.u16.max : Int) = 65535 from rfl, not_u16 hp.1 hp.2]
 rfl
theorem rof_eq (l : List Int) (hb : IsB l) (hl : l.length <= 1000000000) (k : Nat) (hk : l.length + 1 < k) (hk3 : 3 < k) : lychref1_Of.f k l = some (ck l) := by
 have hr := addw_range (words l) 0 (by omega) (by omega) (words_isW l hb); have hn := norm_addw (words l) 0 (by omega) (by omega) (words_isW l hb); have hp := norm_range _ (isum_nonneg _ (words_isW l hb)); unfold lychref1_Of.f; rw [radd_eq 0 l hb hl (by omega) (by omega) k hk]; simp only [Option.bind_some]; rw [rfold_eq _ hr.1 hr.2 k hk3, hn, Int.zero_add]; simp only [Option.bind_some]; rw [show (IntKind.u16.max : Int) = 65535 from rfl, not_u16 hp.1 hp.2]
 rfl
end Go.Proofs.Ytkmimamminddiaa.SumEq
namespace Go.Proofs.Ytkmimamminddiaa.PB
open Go.RowKit Go.Proofs.YtkmimamminddiaaW.PrintWords Go.Proofs.YtkmimamminddiaaW.PrintLast Go.Proofs.YtkmimamminddiaaW.PrintMore
attribute [local go_sem] max2_int min2_int max_two min_two max_three min_three max_four min_four
theorem eqA65 (d : Nat) (w : World) (x0 y0 : Int) (x1 y1 : Int) :
  (Op.equalIn (d + 2) 65 (.agg #[.int .u32 x0, .int .u16 x1]) (.agg #[.int .u32 y0, .int .u16 y1])).run Try.prog w = .ok (x0 == y0 && (x1 == y1)) w := by
 refine eqA_of Try.underlying65 (by kernel_rfl) ?_; refine eqf_cons (by rfl) (by go_simp; rfl) (by go_simp; rfl) (by go_simp) ?_; exact eqf_last (by rfl) (by go_simp; rfl) (by go_simp; rfl) (by go_simp)
attribute [local go_sem] max2_int min2_int max_two min_two max_three min_three max_four min_four
attribute [local go_sem high] eqA65
def lychref1_IcmpRight.f (k : Nat) (a0_0 : Int) (a0_1 : Int) (a0_2 : Int) (a0_3 : Int) (l0_4 : List Int) : Option (Bool) := (lychref1_IcmpBytes.f a0_0 a0_1 a0_2 a0_3 l0_4).bind fun bt824 => (if bt824.2 = 0 then ((lychref1_Add.f k 0 bt824.1).bind fun t828 => ((lychref1_Fold.f k t828).bind fun t829 => (some (t829 == 65535)))) else (some false))
def lychhelp_Points.l0 : Nat -> List (S65) -> List (S65) -> Int -> Option (Bool)
 | 0, _, _, _ => none
 | k + 1, x0, x1, x5 => if x5 < (x0.length : Int) then (if 0 <= x5 then (if x5 < (x1.length : Int) then (if (!(((rd_T65 x0 x5).f0) == ((rd_T65 x1 x5).f0)) || (!(((rd_T65 x0 x5).f1) == ((rd_T65 x1 x5).f1)))) = true then (some false) else (lychhelp_Points.l0 k x0 x1 (wrap64 (x5 + 1)))) else (none)) else (none)) else (some true)
def lychhelp_Points.f (k : Nat) (l0 : List (S65)) (l1 : List (S65)) : Option (Bool) := if (l0.length : Int) = (l1.length : Int) then (lychhelp_Points.l0 k l0 l1 0) else (some false)
theorem lychhelp_Points.calls (k : Nat) (A0 : Option Addr) (c0 : Nat) (l0 : List (S65)) (A1 : Option Addr) (c1 : Nat) (l1 : List (S65)) (r : Bool) (w : World) (hr0 : Kd.C k65 w A0 l0.length l0) (hc0 : l0.length <= c0) (hr1 : Kd.C k65 w A1 l1.length l1) (hc1 : l1.length <= c1) (h : lychhelp_Points.f k l0 l1 = some r) :
  Calls Try.prog 37 #[.slice A0 l0.length c0, .slice A1 l1.length c1] w fun e w' => e = .returned (.bool r) /\ Drawn0 w w' := by
 have hu65 := Try.underlying65; have HR0 := Aside0.mk hr0; have HC0 := Aside0.mk hc0; clear hr0 hc0; have HR1 := Aside0.mk hr1; have HC1 := Aside0.mk hc1; clear hr1 hc1; have H : (if (l0.length : Int) = (l1.length : Int) then (lychhelp_Points.l0 k l0 l1 0) else (some false)) = some r := h; clear h
 by_cases c3 : (l0.length : Int) = (l1.length : Int)
 ·rw [if_pos c3] at H
  have c3b0 : ((l0.length : Int) == (l1.length : Int)) = true := beq_iff_eq.mpr c3; have c3b1 : ((l0.length : Int) != (l1.length : Int)) = false := bne_eq_false_iff_eq.mpr c3; have c3b2 : (l0.length == l1.length) = true := by first | simpa using c3 | (simp at c3 |-; omega)
  clear c3; have H' := Aside0.mk H; clear H
  go_enter Try.func37, Try.ntmps37
  go_wp2
  repeat (go_quiet (fail); try go_wp2)
  go_loopg [5] k (fun kq v5 w' => ∃ (x5_1 : Int), v5 = .int .i64 x5_1 /\ Aside0 (lychhelp_Points.l0 kq l0 l1 x5_1 = some r) /\ Aside0 (kq <= k) /\ Drawn0 w w')
  case atStart => exact ⟨(0), (by first | rfl | (simp; done) | (simp [*]; done)), H', ⟨Nat.le_refl _⟩, by repeat (first | exact Drawn0.refl _ | apply Drawn0.step)⟩
  case round =>
   clear H'
   try clear c1
   try clear c3
   try clear c3b0
   try clear c3b1
   try clear c3b2
   obtain ⟨x5_1, rfl, HA, HK1, ⟨m1, rfl⟩⟩ := hrel
   cases gk with
   | zero => exact absurd HA.out (by simp [lychhelp_Points.l0])
   | succ k1 =>
    have H := HA.out; clear HA; simp only [lychhelp_Points.l0] at H
    by_cases c4 : x5_1 < (l0.length : Int)
    ·rw [if_pos c4] at H
     have c4b0 : decide (x5_1 < (l0.length : Int)) = true := decide_eq_true c4; clear c4
     by_cases c5 : 0 <= x5_1
     ·rw [if_pos c5] at H
      have c5b0 : decide (0 <= x5_1) = true := decide_eq_true c5; clear c5
      by_cases c6 : x5_1 < (l1.length : Int)
      ·rw [if_pos c6] at H
       have c6b0 : decide (x5_1 < (l1.length : Int)) = true := decide_eq_true c6; clear c6
       by_cases c7 : (!(((rd_T65 l0 x5_1).f0) == ((rd_T65 l1 x5_1).f0)) || (!(((rd_T65 l0 x5_1).f1) == ((rd_T65 l1 x5_1).f1)))) = true
       ·rw [if_pos c7] at H
        have c7b0 : (!(((rd_T65 l0 x5_1).f0) == ((rd_T65 l1 x5_1).f0)) || (!(((rd_T65 l0 x5_1).f1) == ((rd_T65 l1 x5_1).f1)))) = true := c7; clear c7; obtain rfl := Option.some.inj H; have p905 : 0 <= (x5_1 : Int) := odt; have q905 : x5_1 < (l0.length : Int) := odt; obtain ⟨ad905, e905, hx905_0, hx905_1⟩ := at_T65 HR0.out x5_1 p905 q905
        cases e905
        replace p905 := eq_true p905; replace q905 := eq_true q905; have p906 : 0 <= (x5_1 : Int) := odt; have q906 : x5_1 < (l1.length : Int) := odt; obtain ⟨ad906, e906, hx906_0, hx906_1⟩ := at_T65 HR1.out x5_1 p906 q906
        cases e906
        replace p906 := eq_true p906; replace q906 := eq_true q906
        go_wp2
        repeat (go_quiet (fail); try go_wp2)
        go_ret
        exact ⟨by first | rfl | (simp; done) | (simp [*]; done), by repeat (first | exact Drawn0.refl _ | apply Drawn0.step)⟩
       ·rw [if_neg c7] at H
        have c7b0 : (!(((rd_T65 l0 x5_1).f0) == ((rd_T65 l1 x5_1).f0)) || (!(((rd_T65 l0 x5_1).f1) == ((rd_T65 l1 x5_1).f1)))) = false := by simpa using c7
        clear c7; have H' := Aside0.mk H; clear H; have p905 : 0 <= (x5_1 : Int) := odt; have q905 : x5_1 < (l0.length : Int) := odt; obtain ⟨ad905, e905, hx905_0, hx905_1⟩ := at_T65 HR0.out x5_1 p905 q905
        cases e905
        replace p905 := eq_true p905; replace q905 := eq_true q905; have p906 : 0 <= (x5_1 : Int) := odt; have q906 : x5_1 < (l1.length : Int) := odt; obtain ⟨ad906, e906, hx906_0, hx906_1⟩ := at_T65 HR1.out x5_1 p906 q906
        cases e906
        replace p906 := eq_true p906; replace q906 := eq_true q906
        go_wp2
        repeat (go_quiet (fail); try go_wp2)
        go_roundg k1
        case measure => have := HK1.out; omega
        case rel => exact ⟨(wrap64 (x5_1 + 1)), (by first | rfl | (simp; done) | (simp [*]; done)), H', ⟨by have := HK1.out; omega⟩, by repeat (first | exact Drawn0.refl _ | apply Drawn0.step)⟩
      ·rw [if_neg c6] at H
       exact absurd H (by simp)
     ·rw [if_neg c5] at H
      exact absurd H (by simp)
    ·rw [if_neg c4] at H
     have c4b0 : decide (x5_1 < (l0.length : Int)) = false := decide_eq_false c4; clear c4; obtain rfl := Option.some.inj H
     go_wp2
     repeat (go_quiet (fail); try go_wp2)
     go_ret
     exact ⟨by first | rfl | (simp; done) | (simp [*]; done), by repeat (first | exact Drawn0.refl _ | apply Drawn0.step)⟩
 ·rw [if_neg c3] at H
  have c3b0 : ((l0.length : Int) == (l1.length : Int)) = false := beq_eq_false_iff_ne.mpr c3; have c3b1 : ((l0.length : Int) != (l1.length : Int)) = true := bne_iff_ne.mpr c3; have c3b2 : (l0.length == l1.length) = false := by first | simpa using c3 | (simp at c3 |-; omega)
  obtain rfl := Option.some.inj H
  go_enter Try.func37, Try.ntmps37
  go_wp2
  repeat (go_quiet (fail); try go_wp2)
  go_ret
  exact ⟨by first | rfl | (simp; done) | (simp [*]; done), by repeat (first | exact Drawn0.refl _ | apply Drawn0.step)⟩
end Go.Proofs.Ytkmimamminddiaa.PB
namespace Go.Proofs.Ytkmimamminddiaa.Pure
open Go.RowKit Go.Proofs.Ytkmimamminddiaa.PB Go.Proofs.YtkmimamminddiaaW.PrintWords Go.Proofs.YtkmimamminddiaaW.PrintLast
open Go.Proofs.Ytkmimamminddiaa.Spec Go.Proofs.Ytkmimamminddiaa.BytesEq
def tT (a b : Int) (x : List Int) : Int := norm (a / 65536 + a % 65536 + b / 65536 + b % 65536 + 6 + (x.length : Int) % 65536) + isum (words x)
theorem tT_nonneg {a b : Int} {x : List Int} (ha : 0 <= a) (hb : 0 <= b) (h : IsB x) : 0 <= tT a b x := by
 have h1 := norm_range (a / 65536 + a % 65536 + b / 65536 + b % 65536 + 6 + (x.length : Int) % 65536) (by omega); have h2 := isum_nonneg _ (words_isW x h); unfold tT
 omega
theorem tbytes_isB {s d q k f w c u : Int} {o l : List Int} (hf : 0 <= f /\ f <= 255) (ho : IsB o) (hl : IsB l) : IsB (tbytes s d q k f w c u o l) := (thead_isB hf).append (ho.append hl)
theorem tbytes_length (s d q k f w c u : Int) (o l : List Int) : (tbytes s d q k f w c u o l).length = 20 + o.length + l.length := by
 unfold tbytes; rw [List.length_append, List.length_append, thead_length]
 omega
section
variable {a b s d q k f w c u : Int} {o l : List Int}
theorem tout_ok (h4 : (o.length : Int) % 4 = 0) (h40 : (o.length : Int) <= 40) (hl : (l.length : Int) <= 3000) : tout s d q k f w c u o l = (tbytes s d q k f w c u o l, 0) := by
 unfold tout; rw [if_neg (by omega), if_neg (by omega)]
theorem tfold (ha : 0 <= a /\ a <= 4294967295) (hb : 0 <= b /\ b <= 4294967295) {x : List Int} (hx : IsB x) (hl : x.length <= 3100) (K : Nat) (hK : 4000 <= K) : ((sum_Pseudo.f K a b 6 (x.length : Int)).bind fun t => (sum_Add.f K t x).bind fun t2 => sum_Fold.f K t2) = some (norm (tT a b x)) /\ ((lychref1_Pseudo.f K a b 6 (x.length : Int)).bind fun t => (lychref1_Add.f K t x).bind fun t2 => lychref1_Fold.f K t2) = some (norm (tT a b x)) := by
 have hp := norm_range (a / 65536 + a % 65536 + b / 65536 + b % 65536 + 6 + (x.length : Int) % 65536) (by omega); have hr := addw_range (words x) _ hp.1 (by omega) (words_isW _ hx); have hn := norm_addw (words x) _ hp.1 (by omega) (words_isW _ hx)
 constructor
 ·rw [SumEq.pseudo_eq a b 6 _ ha hb (by omega) K (by omega), Option.bind_some, SumEq.add_eq _ _ hx (by omega) hp.1 (by omega) K (by omega), Option.bind_some, SumEq.fold_eq _ hr.1 hr.2 K (by omega), hn]
  rfl
 ·rw [SumEq.rpseudo_eq a b 6 _ ha hb (by omega) K (by omega), Option.bind_some, SumEq.radd_eq _ _ hx (by omega) hp.1 (by omega) K (by omega), Option.bind_some, SumEq.rfold_eq _ hr.1 hr.2 K (by omega), hn]
  rfl
theorem rtsum_eq (ha : 0 <= a /\ a <= 4294967295) (hb : 0 <= b /\ b <= 4294967295) (hf : 0 <= f /\ f <= 255) (ho : IsB o) (h4 : (o.length : Int) % 4 = 0) (h40 : (o.length : Int) <= 40) (h : IsB l) (hl : (l.length : Int) <= 3000) (K : Nat) (hK : 4000 <= K) : lychref1_TcpSum.f K a b s d q k f w c u o l = some (65535 - norm (tT a b (tbytes s d q k f w 0 u o l))) := by
 have hL := tbytes_length s d q k f w 0 u o l; have hn := norm_range _ (tT_nonneg ha.1 hb.1 (tbytes_isB (s := s) (d := d) (q := q) (k := k) (w := w) (c := 0) (u := u) hf ho h)); obtain ⟨x, hx⟩ : ∃ x, x = tbytes s d q k f w 0 u o l := ⟨_, rfl⟩
 have hB : IsB x := by rw [hx]; exact tbytes_isB hf ho h
 have h1 := (tfold ha hb hB (by rw [hx]; omega) K hK).2; unfold lychref1_TcpSum.f; rw [<- hx] at hn |-
 rw [rtbytes_eq (by omega) (by omega) K (by omega), tout_ok h4 h40 hl, <- hx, Option.bind_some]; obtain ⟨t1, e1, h1⟩ := Option.bind_eq_some_iff.1 h1; obtain ⟨t2, e2, h1⟩ := Option.bind_eq_some_iff.1 h1
 dsimp only
 rw [if_pos rfl, e1, Option.bind_some, e2, Option.bind_some, h1, Option.bind_some, show (IntKind.u16.max : Int) = 65535 from rfl, not_u16 hn.1 hn.2]
end
end Go.Proofs.Ytkmimamminddiaa.Pure
namespace Go.Proofs.Ytkmimamminddiaa.PB
open Go.RowKit Go.Proofs.YtkmimamminddiaaW.PrintWords Go.Proofs.YtkmimamminddiaaW.PrintLast Go.Proofs.YtkmimamminddiaaW.PrintMore
attribute [local go_sem] max2_int min2_int max_two min_two max_three min_three max_four min_four
attribute [local go_sem] max2_int min2_int max_two min_two max_three min_three max_four min_four
end Go.Proofs.Ytkmimamminddiaa.PB
namespace Go.Proofs.Ytkmimamminddiaa.Pure
open Go.RowKit Go.Proofs.Ytkmimamminddiaa.PB Go.Proofs.YtkmimamminddiaaW.PrintWords Go.Proofs.YtkmimamminddiaaW.PrintLast
open Go.Proofs.Ytkmimamminddiaa.Spec Go.Proofs.Ytkmimamminddiaa.BytesEq
def ubytes (s d c : Int) (l : List Int) : List Int := [s / 256 % 256, s % 256, d / 256 % 256, d % 256, (8 + (l.length : Int)) / 256 % 256, (8 + (l.length : Int)) % 256, c / 256 % 256, c % 256] ++ l
theorem rubytes_eq (s d c : Int) {l : List Int} (hl : l.length <= 1000000000) : lychref1_UdpBytes.f s d c l = if (l.length : Int) > 65527 then some ([], 23) else some (ubytes s d c l, 0) := by
 unfold lychref1_UdpBytes.f lychref1_Put16.f ubytes
 by_cases h : (l.length : Int) > 65527
 ·rw [if_pos h, if_pos h]
 ·rw [if_neg h, if_neg h, wrap64_id (n := 8 + (l.length : Int)) (by omega) (by omega), u16w (n := 8 + (l.length : Int)) (by omega) (by omega)]
  simp only [Option.bind_some, List.length_cons, List.length_nil, List.cons_append, List.nil_append]; rw [if_pos (by omega)]; simp only [Option.bind_some, List.length_cons, List.length_nil, List.cons_append, List.nil_append]; rw [if_pos (by omega)]; simp only [Option.bind_some, List.length_cons, List.length_nil, List.cons_append, List.nil_append]; rw [if_pos (by omega)]; simp only [Option.bind_some, List.length_cons, List.length_nil, List.cons_append, List.nil_append]; rw [if_pos (by omega)]; simp only [Option.bind_some, List.length_cons, List.length_nil, List.cons_append, List.nil_append]; rw [if_pos (by omega)]
theorem ubytes_isB {s d c : Int} {l : List Int} (h : IsB l) : IsB (ubytes s d c l) :=
 IsB.append (.cons (by omega) (.cons (by omega) (.cons (by omega) (.cons (by omega) (.cons (by omega) (.cons (by omega) (.cons (by omega) (.cons (by omega) .nil)))))))) h
theorem ubytes_length (s d c : Int) (l : List Int) : (ubytes s d c l).length = 8 + l.length := by simp [ubytes]; omega
theorem words_ubytes {s d c : Int} {l : List Int} (hs : 0 <= s /\ s <= 65535) (hd : 0 <= d /\ d <= 65535) (hc : 0 <= c /\ c <= 65535) (hl : (l.length : Int) <= 65527) : isum (words (ubytes s d c l)) = s + d + (8 + (l.length : Int)) + c + isum (words l) := by
 unfold ubytes; simp only [List.cons_append, List.nil_append, words, isum]
 omega
def usumS (a b s d : Int) (l : List Int) : Int := norm (a / 65536 + a % 65536 + b / 65536 + b % 65536 + 17 + (8 + (l.length : Int)) % 65536) + s + d + (8 + (l.length : Int)) + isum (words l)
theorem usumS_pos {a b s d : Int} {l : List Int} (ha : 0 <= a) (hb : 0 <= b) (hs : 0 <= s) (hd : 0 <= d) (h : IsB l) : 0 < usumS a b s d l := by
 have h1 := norm_range (a / 65536 + a % 65536 + b / 65536 + b % 65536 + 17 + (8 + (l.length : Int)) % 65536) (by omega); have h2 := isum_nonneg _ (words_isW l h); unfold usumS; omega
def usum (S : Int) : Int := if norm S = 65535 then 65535 else 65535 - norm S
theorem rusum_eq {a b s d c : Int} {l : List Int} (ha : 0 <= a /\ a <= 4294967295) (hb : 0 <= b /\ b <= 4294967295) (hs : 0 <= s /\ s <= 65535) (hd : 0 <= d /\ d <= 65535) (h : IsB l) (hl : (l.length : Int) <= 3000) (K : Nat) (hK : 4000 <= K) :
  lychref1_UdpSum.f K a b s d c l = some (usum (usumS a b s d l)) := by
 have hS := usumS_pos (s := s) (d := d) ha.1 hb.1 hs.1 hd.1 h; have hnn := norm_range (usumS a b s d l) (by omega); have hB := ubytes_isB (s := s) (d := d) (c := 0) h; have hL := ubytes_length s d 0 l; have hp := norm_range (a / 65536 + a % 65536 + b / 65536 + b % 65536 + 17 + (8 + (l.length : Int)) % 65536) (by omega); have hr := addw_range (words (ubytes s d 0 l)) _ hp.1 (by omega) (words_isW _ hB); have hn := norm_addw (words (ubytes s d 0 l)) _ hp.1 (by omega) (words_isW _ hB); unfold lychref1_UdpSum.f; rw [rubytes_eq _ _ _ (by omega), if_neg (by omega)]; simp only [Option.bind_some, if_true]; rw [show ((ubytes s d 0 l).length : Int) = 8 + (l.length : Int) from by omega, SumEq.rpseudo_eq a b 17 _ ha hb (by omega) K (by omega)]; simp only [Option.bind_some]; rw [SumEq.radd_eq _ _ hB (by omega) hp.1 (by omega) K (by omega)]; simp only [Option.bind_some]
 have e : norm (a / 65536 + a % 65536 + b / 65536 + b % 65536 + 17 + (8 + (l.length : Int)) % 65536) + (s + d + (8 + (l.length : Int)) + 0 + isum (words l)) = usumS a b s d l := by unfold usumS; omega
 rw [SumEq.rfold_eq _ hr.1 hr.2 K (by omega), hn, words_ubytes hs hd (by omega) (by omega), e]; simp only [Option.bind_some]; rw [show (IntKind.u16.max : Int) = 65535 from rfl, not_u16 hnn.1 hnn.2]; unfold usum
 by_cases c1 : norm (usumS a b s d l) = 65535
 ·rw [if_pos (by omega), if_pos c1]
 ·rw [if_neg (by omega), if_neg c1]
end Go.Proofs.Ytkmimamminddiaa.Pure
namespace Go.Proofs.Ytkmimamminddiaa.PureI
open Go.RowKit Go.Proofs.Ytkmimamminddiaa.PB Go.Proofs.YtkmimamminddiaaW.PrintWords Go.Proofs.YtkmimamminddiaaW.PrintLast
open Go.Proofs.Ytkmimamminddiaa.Spec Go.Proofs.Ytkmimamminddiaa.BytesEq
theorem word32b {a b c d : Int} (ha : 0 <= a /\ a <= 255) (hb : 0 <= b /\ b <= 255) (hc : 0 <= c /\ c <= 255) (hd : 0 <= d /\ d <= 255) :
  Go.bits .or .u32 (Go.bits .or .u32 (Go.bits .or .u32 (((a % 4294967296) * 16777216) % 4294967296) (((b % 4294967296) * 65536) % 4294967296)) (((c % 4294967296) * 256) % 4294967296)) (d % 4294967296) = a * 16777216 + b * 65536 + c * 256 + d := by
 rw [show a % 4294967296 = a from by omega, show a * 16777216 % 4294967296 = a * 16777216 from by omega, show b % 4294967296 = b from by omega, show b * 65536 % 4294967296 = b * 65536 from by omega, show c % 4294967296 = c from by omega, show c * 256 % 4294967296 = c * 256 from by omega, show d % 4294967296 = d from by omega]; rw [or_u32 24 (x := a * 16777216) (y := b * 65536) (by omega) (by omega) (by omega) (by omega) (by omega) (by omega)]; rw [or_u32 16 (x := a * 16777216 + b * 65536) (y := c * 256) (by omega) (by omega) (by omega) (by omega) (by omega) (by omega)]; rw [or_u32 8 (x := a * 16777216 + b * 65536 + c * 256) (y := d) (by omega) (by omega) (by omega) (by omega) (by omega) (by omega)]
def imsg (l : List Int) : Int × Int × Int × Int × List Int × Int := if l.length < 8 then (0, 0, 0, 0, [], 20) else (l.getD 0 0, l.getD 1 0, g16 l 2, g32 l 4, l.drop 8, 0)
theorem iparse_eq {l : List Int} (h : IsB l) (hl : l.length <= 1000000000) : icmp_Parse.f l = some (imsg l) := by
 unfold icmp_Parse.f imsg
 by_cases h8 : l.length < 8
 ·rw [if_pos (by omega), if_pos h8]
 ·rw [if_neg (by omega), if_neg h8, if_pos (by omega), if_pos (by omega), if_pos (by omega), if_pos (by omega), if_pos (by omega), if_pos (by omega), if_pos (by omega), if_pos (by omega), if_pos (by omega), clone_eq _ (by rw [List.length_drop]; omega)]
  simp only [Option.bind_some]; rw [rd_nat l 0 0 rfl, rd_nat l 1 1 rfl, rd_nat l 2 2 rfl, rd_nat l 3 3 rfl, rd_nat l 4 4 rfl, rd_nat l 5 5 rfl, rd_nat l 6 6 rfl, rd_nat l 7 7 rfl, word16 (h.getD 2) (h.getD 3), word32b (h.getD 4) (h.getD 5) (h.getD 6) (h.getD 7)]; have e : g32 l 4 = (l.getD 4 0 * 256 + l.getD 5 0) * 65536 + (l.getD 6 0 * 256 + l.getD 7 0) := rfl; rw [e, show (l.getD 4 0 * 256 + l.getD 5 0) * 65536 + (l.getD 6 0 * 256 + l.getD 7 0) = l.getD 4 0 * 16777216 + l.getD 5 0 * 65536 + l.getD 6 0 * 256 + l.getD 7 0 from by omega]
  rfl
def ibytes (t c s r : Int) (l : List Int) : List Int := [t, c, s / 256 % 256, s % 256, r / 16777216 % 256, r / 65536 % 256, r / 256 % 256, r % 256] ++ l
theorem ibytes_eq (t c s r : Int) {l : List Int} (hl : l.length <= 1000000000) : icmp_Bytes.f t c s r l = if (l.length : Int) > 65507 then some ([], 23) else some (ibytes t c s r l, 0) := by
 unfold icmp_Bytes.f ibytes; rw [wrap64_id (by omega) (by omega)]
 by_cases h : (l.length : Int) > 65507
 ·rw [if_pos (by omega), if_pos h]
 ·rw [if_neg (by omega), if_neg h]
  simp only [Option.bind_some, List.length_cons, List.length_nil]; rw [if_pos (by omega)]
theorem ribytes_eq (t c s r : Int) {l : List Int} (hl : l.length <= 1000000000) : lychref1_IcmpBytes.f t c s r l = if (l.length : Int) > 65507 then some ([], 23) else some (ibytes t c s r l, 0) := by
 unfold lychref1_IcmpBytes.f lychref1_Put16.f lychref1_Put32.f ibytes
 by_cases h : (l.length : Int) > 65507
 ·rw [if_pos h, if_pos h]
 ·rw [if_neg h, if_neg h]
  simp only [Option.bind_some, List.length_cons, List.length_nil, List.cons_append, List.nil_append]; rw [if_pos (by omega)]; simp only [Option.bind_some, List.length_cons, List.length_nil, List.cons_append, List.nil_append]; rw [if_pos (by omega)]; simp only [Option.bind_some, List.length_cons, List.length_nil, List.cons_append, List.nil_append]; rw [if_pos (by omega)]
theorem ibytes_isB {t c s r : Int} {l : List Int} (ht : 0 <= t /\ t <= 255) (hc : 0 <= c /\ c <= 255) (h : IsB l) : IsB (ibytes t c s r l) :=
 IsB.append (.cons ht (.cons hc (.cons (by omega) (.cons (by omega) (.cons (by omega) (.cons (by omega) (.cons (by omega) (.cons (by omega) .nil)))))))) h
theorem ibytes_length (t c s r : Int) (l : List Int) : (ibytes t c s r l).length = 8 + l.length := by simp [ibytes]; omega
theorem imsg_ibytes {t c s r : Int} {l : List Int} (hs : 0 <= s /\ s <= 65535) (hr : 0 <= r /\ r <= 4294967295) : imsg (ibytes t c s r l) = (t, c, s, r, l, 0) := by
 unfold imsg; rw [if_neg (by rw [ibytes_length]; omega)]; unfold ibytes g32 g16; simp only [List.cons_append, List.nil_append, List.getD_cons_zero, List.getD_cons_succ, List.drop_succ_cons, List.drop_zero, Prod.mk.injEq, and_true, true_and]
 constructor <;> omega
theorem words_ibytes (t c s r : Int) (l : List Int) : words (ibytes t c s r l) = (t * 256 + c) :: (s / 256 % 256 * 256 + s % 256) :: (r / 16777216 % 256 * 256 + r / 65536 % 256) :: (r / 256 % 256 * 256 + r % 256) :: words l := by
 simp [ibytes, words]
theorem ck_zero_iff {l : List Int} (h : IsB l) : (ck l == 0) = (norm (isum (words l)) == 65535) := by
 have := norm_range _ (isum_nonneg _ (words_isW l h)); unfold ck; rw [Bool.eq_iff_iff, beq_iff_eq, beq_iff_eq]; omega
theorem iright_eq {t c s r : Int} {l : List Int} (ht : 0 <= t /\ t <= 255) (hc : 0 <= c /\ c <= 255) (h : IsB l) (hl : (l.length : Int) <= 3000) (K : Nat) (hK : 4000 <= K) :
  icmp_Right.f K t c s r l = some (norm (isum (words (ibytes t c s r l))) == 65535) /\ lychref1_IcmpRight.f K t c s r l = some (norm (isum (words (ibytes t c s r l))) == 65535) := by
 have hB := ibytes_isB (s := s) (r := r) ht hc h; have hL := ibytes_length t c s r l; have hr := addw_range (words (ibytes t c s r l)) 0 (by omega) (by omega) (words_isW _ hB); have hn := norm_addw (words (ibytes t c s r l)) 0 (by omega) (by omega) (words_isW _ hB)
 constructor
 ·unfold icmp_Right.f
  rw [ibytes_eq _ _ _ _ (by omega), if_neg (by omega)]; simp only [Option.bind_some, if_true]; rw [SumEq.of_eq _ hB (by omega) K (by omega) (by omega)]; simp only [Option.bind_some]; rw [ck_zero_iff hB]
 ·unfold lychref1_IcmpRight.f
  rw [ribytes_eq _ _ _ _ (by omega), if_neg (by omega)]; simp only [Option.bind_some, if_true]; rw [SumEq.radd_eq 0 _ hB (by omega) (by omega) (by omega) K (by omega)]; simp only [Option.bind_some]; rw [SumEq.rfold_eq _ hr.1 hr.2 K (by omega), hn, Int.zero_add]; simp only [Option.bind_some]
theorem risumf_eq (t c s r : Int) (l : List Int) (K : Nat) (hK : 4000 <= K) (hl : (l.length : Int) <= 3000) (hB : IsB (ibytes t c 0 r l)) : lychref1_IcmpSum.f K t c s r l = some (ck (ibytes t c 0 r l)) := by
 have hL := ibytes_length t c 0 r l; unfold lychref1_IcmpSum.f; rw [ribytes_eq _ _ _ _ (by omega), if_neg (by omega)]; simp only [Option.bind_some, if_true]; rw [SumEq.rof_eq _ hB (by omega) _ (by omega) (by omega)]; simp only [Option.bind_some]
theorem iown (t c r : Int) (l : List Int) (hB : IsB (ibytes t c 0 r l)) : norm (isum (words (ibytes t c (ck (ibytes t c 0 r l)) r l))) = 65535 := by
 have hxr := ck_range _ hB
 have e : isum (words (ibytes t c (ck (ibytes t c 0 r l)) r l)) = isum (words (ibytes t c 0 r l)) + ck (ibytes t c 0 r l) := by
  generalize ck (ibytes t c 0 r l) = x at hxr |-
  rw [words_ibytes, words_ibytes]; simp only [isum]
  omega
 rw [e]; exact stands (isum_nonneg _ (words_isW _ hB))
end Go.Proofs.Ytkmimamminddiaa.PureI
namespace Go.Proofs.Ytkmimamminddiaa.PB
open Go.RowKit Go.Proofs.YtkmimamminddiaaW.PrintWords Go.Proofs.YtkmimamminddiaaW.PrintLast Go.Proofs.YtkmimamminddiaaW.PrintMore
attribute [local go_sem] max2_int min2_int max_two min_two max_three min_three max_four min_four
end Go.Proofs.Ytkmimamminddiaa.PB
namespace Go.Proofs.Ytkmimamminddiaa.Pure
open Go.RowKit Go.Proofs.Ytkmimamminddiaa.PB Go.Proofs.YtkmimamminddiaaW.PrintWords Go.Proofs.YtkmimamminddiaaW.PrintLast
open Go.Proofs.Ytkmimamminddiaa.Spec Go.Proofs.Ytkmimamminddiaa.BytesEq Go.Proofs.Ytkmimamminddiaa.SumEq
theorem itwo_eq {l : List Int} (h : IsB l) (i : Nat) (hi : i + 2 <= l.length) (hl : l.length <= 1000000000) : ip_reader_two.f l (i : Int) = some (g16 l i) := get16_eq h i hi hl
theorem ifour_eq {l : List Int} (h : IsB l) (i : Nat) (hi : i + 4 <= l.length) (hl : l.length <= 1000000000) : ip_reader_four.f l (i : Int) = some (g32 l i) := get32_eq h i hi hl
theorem iclone_eq (l : List Int) (hl : l.length <= 1000000000) : ip_reader_byte.f l = some l := by
 unfold ip_reader_byte.f; rw [if_pos (by omega)]
theorem must_yes {c : Prop} [Decidable c] (h : c) (e : Int) : ip_must.f (decide c) e = some () := by
 unfold ip_must.f; rw [decide_eq_true h, if_pos rfl]
theorem and16 (i : Nat) (hi : i <= 16) {x : Int} (h₀ : 0 <= x) (h₁ : x <= 65535) : Go.bits .and .u16 x (2 ^ i - 1) = x % 2 ^ i := bits_mask .u16 16 (by decide) wraps_u16 i hi x h₀ (by omega)
def ihead (l : List Int) : Int := 4 * (l.getD 0 0 % 16)
theorem ihead_range (l : List Int) : 0 <= ihead l /\ ihead l <= 60 := by unfold ihead; omega
theorem ihead_eq {l : List Int} (h : IsB l) : wrap64 (4 * (wrap64 (Go.bits .and .u8 (rd l 0) 15))) = ihead l := by
 have hg := h.getD 0; have ea : Go.bits .and .u8 (rd l 0) 15 = l.getD 0 0 % 16 := by rw [rd_nat l 0 0 rfl]; exact and_u8 4 (by omega) hg.1 hg.2
 rw [ea, wrap64_id (n := l.getD 0 0 % 16) (by omega) (by omega), wrap64_id (by omega) (by omega)]
 rfl
def isumof (l : List Int) : Int := norm (isum (words (l.take (ihead l).toNat)))
def iodd (l : List Int) : Prop := ¬ (l.getD 0 0 / 16 = 4 /\ ihead l >= 20 /\ g16 l 2 >= ihead l)
instance (l : List Int) : Decidable (iodd l) := inferInstanceAs (Decidable (¬ _))
def iparts (l : List Int) : Int × Int × Int × Int × Int × Int × Int × Int × List Int × List Int :=
 (l.getD 1 0, l.getD 8 0, l.getD 9 0, g16 l 4, g16 l 6 / 8192, g16 l 6 % 8192, g32 l 12, g32 l 16, (l.take (ihead l).toNat).drop 20, (l.take (g16 l 2).toNat).drop (ihead l).toNat)
def iseg (l : List Int) : Int × Int × Int × Int × Int × Int × Int × Int × List Int × List Int × Int :=
 if l.length < 20 then (0, 0, 0, 0, 0, 0, 0, 0, [], [], 20) else if iodd l then (0, 0, 0, 0, 0, 0, 0, 0, [], [], 21) else if (l.length : Int) < g16 l 2 then (0, 0, 0, 0, 0, 0, 0, 0, [], [], 20) else if isumof l ≠ 65535 then (0, 0, 0, 0, 0, 0, 0, 0, [], [], 22) else
 (l.getD 1 0, l.getD 8 0, l.getD 9 0, g16 l 4, g16 l 6 / 8192, g16 l 6 % 8192, g32 l 12, g32 l 16, (l.take (ihead l).toNat).drop 20, (l.take (g16 l 2).toNat).drop (ihead l).toNat, 0)
theorem fold_head {l : List Int} (h : IsB l) (hl : l.length <= 1000000000) (k : Nat) (hk : l.length + 4 < k) : ((sum_Add.f k 0 l).bind fun a => sum_Fold.f k a) = some (norm (isum (words l))) := by
 have hr := addw_range (words l) 0 (by omega) (by omega) (words_isW l h); have hn := norm_addw (words l) 0 (by omega) (by omega) (words_isW l h); rw [add_eq 0 l h hl (by omega) (by omega) k (by omega), Option.bind_some, fold_eq _ hr.1 hr.2 k (by omega), hn, Int.zero_add]
theorem fold_both {l : List Int} (h : IsB l) (hl : l.length <= 1000000000) (k : Nat) (hk : l.length + 4 < k) : ∃ a, sum_Add.f k 0 l = some a /\ sum_Fold.f k a = some (norm (isum (words l))) := Option.bind_eq_some_iff.mp (fold_head h hl k hk)
theorem ipacket_eq {l : List Int} (h : IsB l) (hl : l.length <= 1000000000) (h20 : 20 <= l.length) (ho : ¬ iodd l) (hs : ¬ (l.length : Int) < g16 l 2) (hx : isumof l = 65535) (k : Nat) (hk : l.length + 5 < k) : ip_reader_packet.f k l = some (iparts l) := by
 obtain ⟨k, rfl⟩ : ∃ j, k = j + 1 := ⟨k - 1, by omega⟩
 have hh := ihead_range l; have hg := g16_range h 2; have hb6 := g16_range h 6; have ho' : l.getD 0 0 / 16 = 4 /\ ihead l >= 20 /\ g16 l 2 >= ihead l := Decidable.not_not.mp ho; obtain ⟨o1, o2, o3⟩ := ho'; have p0 : 0 <= ihead l := hh.1; have p1 : ihead l <= (l.length : Int) := by omega
 have p2 : (0 : Int) < (l.length : Int) := by omega
 have p3 : (1 : Int) < (l.length : Int) := by omega
 have p4 : (8 : Int) < (l.length : Int) := by omega
 have p5 : (9 : Int) < (l.length : Int) := by omega
 have p6 : g16 l 2 <= (l.length : Int) := by omega
 have p7 : ((l.take (ihead l).toNat).drop 20).length <= 1000000000 := by rw [List.length_drop, List.length_take]; omega
 have p8 : ((l.take (g16 l 2).toNat).drop (ihead l).toNat).length <= 1000000000 := by rw [List.length_drop, List.length_take]; omega
 have p9 : (l.length : Int) >= 20 := by omega
 have m1 : ip_must.f (decide ((l.length : Int) >= 20)) 20 = some () := must_yes p9 20; have m2 : ip_must.f (decide (g16 l 2 >= ihead l)) 21 = some () := must_yes o3 21; have m3 : ip_must.f (decide ((l.length : Int) >= g16 l 2)) 20 = some () := must_yes p6 20; have e2 := itwo_eq h 2 (by omega) hl; have e4 := itwo_eq h 4 (by omega) hl; have e6 := itwo_eq h 6 (by omega) hl; have e12 := ifour_eq h 12 (by omega) hl; have e16 := ifour_eq h 16 (by omega) hl; rw [show ((2 : Nat) : Int) = 2 from rfl] at e2
 rw [show ((4 : Nat) : Int) = 4 from rfl] at e4
 rw [show ((6 : Nat) : Int) = 6 from rfl] at e6
 rw [show ((12 : Nat) : Int) = 12 from rfl] at e12
 rw [show ((16 : Nat) : Int) = 16 from rfl] at e16
 have r0 : rd l 0 = l.getD 0 0 := rd_nat l 0 0 rfl; have r1 : rd l 1 = l.getD 1 0 := rd_nat l 1 1 rfl; have r8 : rd l 8 = l.getD 8 0 := rd_nat l 8 8 rfl; have r9 : rd l 9 = l.getD 9 0 := rd_nat l 9 9 rfl; have w2 : wrap64 (g16 l 2) = g16 l 2 := wrap64_id (by omega) (by omega); have hd := ihead_eq h; obtain ⟨a, fa, fb⟩ := fold_both (h.take (ihead l).toNat) (by rw [List.length_take]; omega) k (by rw [List.length_take]; omega); have fx : norm (isum (words (l.take (ihead l).toNat))) = 65535 := hx; rw [fx] at fb
 have m22 : ip_must.f ((65535 : Int) == 65535) 22 = some () := by unfold ip_must.f; rw [if_pos (by decide)]
 have ef : g16 l 6 / 8192 % 256 = g16 l 6 / 8192 := by omega
 have ea : Go.bits .and .u16 (g16 l 6) 8191 = g16 l 6 % 8192 := and16 13 (by omega) hb6.1 hb6.2; unfold ip_reader_packet.f
 rw [m1, Option.bind_some, if_pos p2, e2, Option.bind_some, hd, w2, r0, if_pos o1, if_pos o2, m2, Option.bind_some, ip_reader_packet.j0, m3, Option.bind_some, if_pos p0, if_pos p1, fa, Option.bind_some, fb, Option.bind_some, m22, Option.bind_some, e6, Option.bind_some, if_pos p3, e4, Option.bind_some, if_pos p4, if_pos p5, e12, Option.bind_some, e16, Option.bind_some, if_pos o2,
  iclone_eq _ p7, Option.bind_some, if_pos o3, if_pos p6, iclone_eq _ p8, Option.bind_some, r1, r8, r9, ef, ea]
 rfl
theorem iparse_eq {l : List Int} (h : IsB l) (hl : l.length <= 1000000000) (k : Nat) (hk : l.length + 5 < k) : ip_Parse.f k l = some (iseg l) := by
 have hh := ihead_range l; have hg := g16_range h 2; have hd := ihead_eq h; have r0 : rd l 0 = l.getD 0 0 := rd_nat l 0 0 rfl; unfold ip_Parse.f iseg
 by_cases c1 : l.length < 20
 ·rw [if_pos (by omega), if_pos c1]
 ·have e2 := itwo_eq h 2 (by omega) hl
  rw [show ((2 : Nat) : Int) = 2 from rfl] at e2
  have w2 : wrap64 (g16 l 2) = g16 l 2 := wrap64_id (by omega) (by omega); rw [if_neg (by omega), if_neg c1, e2, Option.bind_some, hd, w2, r0]
  by_cases c2 : iodd l
  ·rw [if_neg c2, if_pos c2]
  ·rw [if_pos (Decidable.not_not.mp c2), if_neg c2]
   by_cases c3 : (l.length : Int) < g16 l 2
   ·rw [if_pos c3, if_pos c3]
   ·rw [if_neg c3, if_neg c3]
    obtain ⟨a, fa, fb⟩ := fold_both (h.take (ihead l).toNat) (by rw [List.length_take]; omega) k (by rw [List.length_take]; omega); rw [fa, Option.bind_some, fb, Option.bind_some]
    by_cases c4 : isumof l = 65535
    ·have fx : norm (isum (words (l.take (ihead l).toNat))) = 65535 := c4
     rw [if_pos fx, if_neg (fun hne => hne c4), ipacket_eq h hl (by omega) c2 c3 c4 k hk, Option.bind_some]
     rfl
    ·have fx : ¬ norm (isum (words (l.take (ihead l).toNat))) = 65535 := c4
     rw [if_neg fx, if_pos c4]
def ihd (a t pr i fl of_ s d : Int) (o l : List Int) (x : Int) : List Int := [64 + (20 + (o.length : Int)) / 4, a, (20 + (o.length : Int) + (l.length : Int)) / 256 % 256, (20 + (o.length : Int) + (l.length : Int)) % 256, i / 256 % 256, i % 256, (fl * 8192 + of_) / 256 % 256, (fl * 8192 + of_) % 256, t, pr, x / 256 % 256, x % 256, s / 16777216 % 256, s / 65536 % 256, s / 256 % 256, s % 256, d / 16777216 % 256, d / 65536 % 256, d / 256 % 256, d % 256]
theorem ihd_length (a t pr i fl of_ s d : Int) (o l : List Int) (x : Int) : (ihd a t pr i fl of_ s d o l x).length = 20 := rfl
def ick (a t pr i fl of_ s d : Int) (o l : List Int) : Int := ck (ihd a t pr i fl of_ s d o l 0 ++ o)
def ibytes (a t pr i fl of_ s d : Int) (o l : List Int) : List Int := ihd a t pr i fl of_ s d o l (ick a t pr i fl of_ s d o l) ++ o ++ l
def iwrong (fl of_ : Int) (o : List Int) : Prop := (o.length : Int) % 4 ≠ 0 \/ (o.length : Int) > 40 \/ fl > 7 \/ of_ > 8191
instance (fl of_ : Int) (o : List Int) : Decidable (iwrong fl of_ o) := inferInstanceAs (Decidable (_ \/ _))
def iout (a t pr i fl of_ s d : Int) (o l : List Int) : List Int × Int := if iwrong fl of_ o then ([], 21) else if 20 + (o.length : Int) + (l.length : Int) > 65535 then ([], 23) else (ibytes a t pr i fl of_ s d o l, 0)
section
variable {a t pr i fl of_ s d : Int} {o l : List Int}
theorem ihd_isB (ha : 0 <= a /\ a <= 255) (ht : 0 <= t /\ t <= 255) (hp : 0 <= pr /\ pr <= 255) (ho : (o.length : Int) <= 40) (x : Int) : IsB (ihd a t pr i fl of_ s d o l x) := by
 unfold ihd
 repeat (first | exact .nil | refine .cons (by omega) ?_)
theorem ibytes_fin (ha : 0 <= a /\ a <= 255) (ht : 0 <= t /\ t <= 255) (hp : 0 <= pr /\ pr <= 255) (ho : IsB o) (h40 : (o.length : Int) <= 40) (hl : l.length <= 1000000000) (k : Nat) (hk : 100 <= k) {H : List Int} (hH : H = ihd a t pr i fl of_ s d o l 0) :
  ip_Bytes.l0 (k + 1) H [s, d] 2 2 a t pr i fl of_ s d o l = some (ibytes a t pr i fl of_ s d o l, 0) := by
 subst hH; have hn : (ihd a t pr i fl of_ s d o l 0 ++ o).length = 20 + o.length := by rw [List.length_append, ihd_length]
 have hset : ((ihd a t pr i fl of_ s d o l 0 ++ o).set (10 : Int).toNat (ick a t pr i fl of_ s d o l / 256 % 256)).set (11 : Int).toNat (ick a t pr i fl of_ s d o l % 256) = ihd a t pr i fl of_ s d o l (ick a t pr i fl of_ s d o l) ++ o := rfl; have hof : sum_Of.f k (ihd a t pr i fl of_ s d o l 0 ++ o) = some (ick a t pr i fl of_ s d o l) := of_eq _ ((ihd_isB ha ht hp h40 0).append ho) (by rw [hn]; omega) k (by rw [hn]; omega) (by omega); have hn2 : (ihd a t pr i fl of_ s d o l (ick a t pr i fl of_ s d o l) ++ o).length = 20 + o.length := by rw [List.length_append, ihd_length]
 rw [ip_Bytes.l0, if_neg (by omega), if_pos (by rw [ihd_length]; omega), Option.bind_some, hof, Option.bind_some, if_pos (by rw [hn]; omega), if_pos (by rw [hn]; omega), Option.bind_some, hset, if_pos (by rw [hn2]; omega)]
 rfl
theorem ior (h4 : (o.length : Int) % 4 = 0) (h40 : (o.length : Int) <= 40) : Go.bits .or .u8 64 ((wrap64 (Int.tdiv (20 + (o.length : Int)) 4)) % 256) = 64 + (20 + (o.length : Int)) / 4 := by
 have e : (wrap64 (Int.tdiv (20 + (o.length : Int)) 4)) % 256 = (20 + (o.length : Int)) / 4 := by
  rw [Int.tdiv_eq_ediv_of_nonneg (by omega), wrap64_id (by omega) (by omega)]; omega
 rw [e]; exact or_u8 6 (by omega) (by omega) (by omega) (by omega) (by omega) (by omega)
theorem ibits (hf : 0 <= fl /\ fl <= 7) (ho : 0 <= of_ /\ of_ <= 8191) : Go.bits .or .u16 (IntKind.u16.wrap ((IntKind.u16.wrap fl) * 8192)) of_ = fl * 8192 + of_ := by
 rw [u16w (n := fl) (by omega) (by omega), u16w (n := fl * 8192) (by omega) (by omega)]; exact or_u16 13 (by omega) (by omega) (by omega) (by omega) (by omega) (by omega)
theorem ibytes_eq (ha : 0 <= a /\ a <= 255) (ht : 0 <= t /\ t <= 255) (hp : 0 <= pr /\ pr <= 255) (hf : 0 <= fl) (hg : 0 <= of_) (ho : IsB o) (hol : o.length <= 1000000000) (hl : l.length <= 1000000000) (k : Nat) (hk : 200 <= k) : ip_Bytes.f k a t pr i fl of_ s d o l = some (iout a t pr i fl of_ s d o l) := by
 obtain ⟨k, rfl⟩ : ∃ j, k = j + 5 := ⟨k - 5, by omega⟩
 have w1 : wrap64 (20 + (o.length : Int)) = 20 + (o.length : Int) := wrap64_id (by omega) (by omega); unfold ip_Bytes.f; rw [w1]
 by_cases cw : iwrong fl of_ o
 ·have hx : iout a t pr i fl of_ s d o l = ([], 21) := by unfold iout; rw [if_pos cw]
  rw [hx]
  by_cases c1 : (o.length : Int) % 4 = 0
  ·rw [if_pos c1]
   by_cases c2 : (o.length : Int) > 40
   ·rw [if_pos c2, ip_Bytes.j0, if_pos rfl]
   ·rw [if_neg c2]
    by_cases c3 : fl > 7
    ·rw [if_pos c3, ip_Bytes.j0, if_pos rfl]
    ·have c4 : of_ > 8191 := by unfold iwrong at cw; omega
     rw [if_neg c3, decide_eq_true c4, ip_Bytes.j0, if_pos rfl]
  ·rw [if_neg c1, ip_Bytes.j0, if_pos rfl]
 ·have cx : (o.length : Int) % 4 = 0 /\ (o.length : Int) <= 40 /\ fl <= 7 /\ of_ <= 8191 := by unfold iwrong at cw; omega
  obtain ⟨x1, x2, x3, x4⟩ := cx; have w2 : wrap64 (65535 - (20 + (o.length : Int))) = 65535 - (20 + (o.length : Int)) := wrap64_id (by omega) (by omega); rw [if_pos x1, if_neg (by omega), if_neg (by omega), decide_eq_false (by omega), ip_Bytes.j0, if_neg (by decide), w2]; unfold iout; rw [if_neg cw]
  by_cases c5 : 20 + (o.length : Int) + (l.length : Int) > 65535
  ·rw [if_pos (by omega), if_pos c5]
  ·rw [if_neg (by omega), if_neg c5, Option.bind_some]
   have w3 : wrap64 (20 + (o.length : Int) + (l.length : Int)) = 20 + (o.length : Int) + (l.length : Int) := wrap64_id (by omega) (by omega); have hlen : (([s, d] : List Int).length : Int) = 2 := rfl; have r0 : rd [s, d] 0 = s := rfl; have r1 : rd [s, d] 1 = d := rfl; have n1 : wrap64 (0 + 1) = 1 := wrap64_id (by omega) (by omega); have n2 : wrap64 (1 + 1) = 2 := wrap64_id (by omega) (by omega); rw [ior x1 x2, ibits ⟨hf, x3⟩ ⟨hg, x4⟩, w3, hlen]; rw [ip_Bytes.l0, if_pos (by omega), if_pos (by omega), hlen, if_pos (by omega), r0, Option.bind_some, if_pos (by simp), n1]; rw [ip_Bytes.l0, if_pos (by omega), if_pos (by omega), hlen, if_pos (by omega), r1, Option.bind_some, if_pos (by simp), n2]; exact ibytes_fin ha ht hp ho x2 hl _ (by omega) rfl
theorem put16_eq (l : List Int) (x : Int) (h : l.length <= 1000000000) : lychref1_Put16.f l x = some (l ++ [x / 256 % 256, x % 256]) := by
 unfold lychref1_Put16.f; rw [Option.bind_some, if_pos (by simp; omega)]
theorem put32_eq (l : List Int) (x : Int) (h : l.length <= 1000000000) : lychref1_Put32.f l x = some (l ++ [x / 16777216 % 256, x / 65536 % 256, x / 256 % 256, x % 256]) := by
 unfold lychref1_Put32.f; rw [Option.bind_some, if_pos (by simp; omega)]
theorem ribytes_fin (ha : 0 <= a /\ a <= 255) (ht : 0 <= t /\ t <= 255) (hp : 0 <= pr /\ pr <= 255) (ho : IsB o) (h40 : (o.length : Int) <= 40) (hl : l.length <= 1000000000) (k : Nat) (hk : 100 <= k) {y : List Int} (hy : y = ihd a t pr i fl of_ s d o l 0 ++ o) :
  ((some (y : List Int)).bind fun y387 => ((lychref1_Of.f k y387).bind fun t390 => (if 10 < (y387.length : Int) then (if 11 < (y387.length : Int) then ((some ((y387.set (10 : Int).toNat ((t390 / 256) % 256)).set (11 : Int).toNat ((t390) % 256) : List Int)).bind fun y392 => (if y392.length + l.length < 140737488355328 then (some ((y392 ++ l), (0 : Int))) else (none))) else (none)) else (none)))) = some (ibytes a t pr i fl of_ s d o l, 0) := by
 subst hy; have hn : (ihd a t pr i fl of_ s d o l 0 ++ o).length = 20 + o.length := by rw [List.length_append, ihd_length]
 have hset : ((ihd a t pr i fl of_ s d o l 0 ++ o).set (10 : Int).toNat (ick a t pr i fl of_ s d o l / 256 % 256)).set (11 : Int).toNat (ick a t pr i fl of_ s d o l % 256) = ihd a t pr i fl of_ s d o l (ick a t pr i fl of_ s d o l) ++ o := rfl; have hof : lychref1_Of.f k (ihd a t pr i fl of_ s d o l 0 ++ o) = some (ick a t pr i fl of_ s d o l) := rof_eq _ ((ihd_isB ha ht hp h40 0).append ho) (by rw [hn]; omega) k (by rw [hn]; omega) (by omega); have hn2 : (ihd a t pr i fl of_ s d o l (ick a t pr i fl of_ s d o l) ++ o).length = 20 + o.length := by rw [List.length_append, ihd_length]
 rw [Option.bind_some, hof, Option.bind_some, if_pos (by rw [hn]; omega), if_pos (by rw [hn]; omega), Option.bind_some, hset, if_pos (by rw [hn2]; omega)]
 rfl
theorem ribytes_eq (ha : 0 <= a /\ a <= 255) (ht : 0 <= t /\ t <= 255) (hp : 0 <= pr /\ pr <= 255) (hf : 0 <= fl) (hg : 0 <= of_) (ho : IsB o) (hol : o.length <= 1000000000) (hl : l.length <= 1000000000) (k : Nat) (hk : 200 <= k) : lychref1_IpBytes.f k a t pr i fl of_ s d o l = some (iout a t pr i fl of_ s d o l) := by
 obtain ⟨k, rfl⟩ : ∃ j, k = j + 1 := ⟨k - 1, by omega⟩
 have w1 : wrap64 (20 + (o.length : Int)) = 20 + (o.length : Int) := wrap64_id (by omega) (by omega); unfold lychref1_IpBytes.f
 by_cases cw : iwrong fl of_ o
 ·have hx : iout a t pr i fl of_ s d o l = ([], 21) := by unfold iout; rw [if_pos cw]
  rw [hx]
  by_cases c1 : (o.length : Int) % 4 = 0
  ·rw [if_pos c1]
   by_cases c2 : (o.length : Int) > 40
   ·rw [if_pos c2, lychref1_IpBytes.j0, if_pos rfl]
   ·rw [if_neg c2]
    by_cases c3 : fl > 7
    ·rw [if_pos c3, lychref1_IpBytes.j0, if_pos rfl]
    ·have c4 : of_ > 8191 := by unfold iwrong at cw; omega
     rw [if_neg c3, decide_eq_true c4, lychref1_IpBytes.j0, if_pos rfl]
  ·rw [if_neg c1, lychref1_IpBytes.j0, if_pos rfl]
 ·have cx : (o.length : Int) % 4 = 0 /\ (o.length : Int) <= 40 /\ fl <= 7 /\ of_ <= 8191 := by unfold iwrong at cw; omega
  obtain ⟨x1, x2, x3, x4⟩ := cx; have w2 : wrap64 (65535 - (20 + (o.length : Int))) = 65535 - (20 + (o.length : Int)) := wrap64_id (by omega) (by omega); rw [if_pos x1, if_neg (by omega), if_neg (by omega), decide_eq_false (by omega), lychref1_IpBytes.j0, if_neg (by decide), w1, w2]; unfold iout; rw [if_neg cw]
  by_cases c5 : 20 + (o.length : Int) + (l.length : Int) > 65535
  ·rw [if_pos (by omega), if_pos c5]
  ·rw [if_neg (by omega), if_neg c5]
   have w3 : IntKind.u16.wrap (wrap64 (20 + (o.length : Int) + (l.length : Int))) = 20 + (o.length : Int) + (l.length : Int) := by rw [wrap64_id (by omega) (by omega), u16w (by omega) (by omega)]
   rw [ior x1 x2, ibits ⟨hf, x3⟩ ⟨hg, x4⟩, w3]; rw [put16_eq _ _ (by simp), Option.bind_some, put16_eq _ _ (by simp), Option.bind_some, put16_eq _ _ (by simp), Option.bind_some, Option.bind_some, if_pos (by simp), put32_eq _ _ (by simp), Option.bind_some, put32_eq _ _ (by simp), Option.bind_some, if_pos (by simp; omega)]; exact ribytes_fin ha ht hp ho x2 hl k (by omega) (congrArg (· ++ o) rfl)
theorem ihd_sum (ha : 0 <= a /\ a <= 255) (ht : 0 <= t /\ t <= 255) (hp : 0 <= pr /\ pr <= 255) (ho : IsB o) (h40 : (o.length : Int) <= 40) : norm (isum (words (ihd a t pr i fl of_ s d o l (ick a t pr i fl of_ s d o l) ++ o))) = 65535 := by
 have hB := (ihd_isB (i := i) (fl := fl) (of_ := of_) (s := s) (d := d) (l := l) ha ht hp h40 0).append ho; have hr := ck_range _ hB; have hS := isum_nonneg _ (words_isW _ hB); have hn : (ihd a t pr i fl of_ s d o l 0 ++ o).length = 20 + o.length := by rw [List.length_append, ihd_length]
 have hc := isum_change (ihd a t pr i fl of_ s d o l 0 ++ o) 5 (ick a t pr i fl of_ s d o l / 256 % 256) (ick a t pr i fl of_ s d o l % 256) (by rw [hn]; omega); have hset : ((ihd a t pr i fl of_ s d o l 0 ++ o).set (2 * 5) (ick a t pr i fl of_ s d o l / 256 % 256)).set (2 * 5 + 1) (ick a t pr i fl of_ s d o l % 256) = ihd a t pr i fl of_ s d o l (ick a t pr i fl of_ s d o l) ++ o := rfl; have hw : wordAt (ihd a t pr i fl of_ s d o l 0 ++ o) 5 = 0 / 256 % 256 * 256 + 0 % 256 := rfl; rw [hset, hw] at hc
 have hx : ick a t pr i fl of_ s d o l = 65535 - norm (isum (words (ihd a t pr i fl of_ s d o l 0 ++ o))) := rfl; have hr' : 0 <= ick a t pr i fl of_ s d o l /\ ick a t pr i fl of_ s d o l <= 65535 := hr; have he : ick a t pr i fl of_ s d o l / 256 % 256 * 256 + ick a t pr i fl of_ s d o l % 256 = ick a t pr i fl of_ s d o l := by omega
 rw [hc, he, hx]; have := stands hS; rw [show isum (words (ihd a t pr i fl of_ s d o l 0 ++ o)) - (0 / 256 % 256 * 256 + 0 % 256) + (65535 - norm (isum (words (ihd a t pr i fl of_ s d o l 0 ++ o)))) = isum (words (ihd a t pr i fl of_ s d o l 0 ++ o)) + (65535 - norm (isum (words (ihd a t pr i fl of_ s d o l 0 ++ o)))) from by omega]; exact this
theorem ihead_bytes (x : Int) (m : List Int) (h40 : (o.length : Int) <= 40) (h4 : (o.length : Int) % 4 = 0) : ihead (ihd a t pr i fl of_ s d o l x ++ m) = 20 + (o.length : Int) := by
 have e0 : (ihd a t pr i fl of_ s d o l x ++ m).getD 0 0 = 64 + (20 + (o.length : Int)) / 4 := rfl; unfold ihead; rw [e0]; omega
theorem g2_bytes (x : Int) (m : List Int) (hn : 20 + (o.length : Int) + (l.length : Int) <= 65535) : g16 (ihd a t pr i fl of_ s d o l x ++ m) 2 = 20 + (o.length : Int) + (l.length : Int) := by
 have e2 : g16 (ihd a t pr i fl of_ s d o l x ++ m) 2 = (20 + (o.length : Int) + (l.length : Int)) / 256 % 256 * 256 + (20 + (o.length : Int) + (l.length : Int)) % 256 := rfl; rw [e2]; omega
theorem iseg_bytes (ha : 0 <= a /\ a <= 255) (ht : 0 <= t /\ t <= 255) (hp : 0 <= pr /\ pr <= 255) (hi : 0 <= i /\ i <= 65535) (hf : 0 <= fl /\ fl <= 7) (hg : 0 <= of_ /\ of_ <= 8191) (hs : 0 <= s /\ s <= 4294967295) (hd : 0 <= d /\ d <= 4294967295) (ho : IsB o) (h40 : (o.length : Int) <= 40) (h4 : (o.length : Int) % 4 = 0) (hn : 20 + (o.length : Int) + (l.length : Int) <= 65535) (m : List Int) :
  iseg (ibytes a t pr i fl of_ s d o l ++ m) = (a, t, pr, i, fl, of_, s, d, o, l, 0) := by
 obtain ⟨x, hx⟩ : ∃ x, x = ick a t pr i fl of_ s d o l := ⟨_, rfl⟩
 have hsum := ihd_sum (i := i) (fl := fl) (of_ := of_) (s := s) (d := d) (l := l) ha ht hp ho h40; unfold ibytes; rw [<- hx] at hsum |-
 clear hx; rw [List.append_assoc, List.append_assoc]; have hH := ihd_length a t pr i fl of_ s d o l x; have eh := ihead_bytes (a := a) (t := t) (pr := pr) (i := i) (fl := fl) (of_ := of_) (s := s) (d := d) (l := l) x (o ++ (l ++ m)) h40 h4; have eg := g2_bytes (a := a) (t := t) (pr := pr) (i := i) (fl := fl) (of_ := of_) (s := s) (d := d) (o := o) (l := l) x (o ++ (l ++ m)) hn; have e0 : (ihd a t pr i fl of_ s d o l x ++ (o ++ (l ++ m))).getD 0 0 = 64 + (20 + (o.length : Int)) / 4 := rfl; have hL : (ihd a t pr i fl of_ s d o l x ++ (o ++ (l ++ m))).length = 20 + o.length + l.length + m.length := by rw [List.length_append, List.length_append, List.length_append, hH]; omega
 have t1 : (20 + (o.length : Int)).toNat = (ihd a t pr i fl of_ s d o l x).length + o.length := by rw [hH]; omega
 have t2 : (20 + (o.length : Int) + (l.length : Int)).toNat = (ihd a t pr i fl of_ s d o l x).length + (o.length + l.length) := by rw [hH]; omega
 have k1 : (ihd a t pr i fl of_ s d o l x ++ (o ++ (l ++ m))).take (20 + (o.length : Int)).toNat = ihd a t pr i fl of_ s d o l x ++ o := by
  rw [t1, List.take_append, List.take_of_length_le (by omega), Nat.add_sub_cancel_left, List.take_left]
 have k2 : (ihd a t pr i fl of_ s d o l x ++ (o ++ (l ++ m))).take (20 + (o.length : Int) + (l.length : Int)).toNat = ihd a t pr i fl of_ s d o l x ++ (o ++ l) := by
  rw [t2, List.take_append, List.take_of_length_le (by omega), Nat.add_sub_cancel_left, List.take_append, List.take_of_length_le (by omega), Nat.add_sub_cancel_left, List.take_left]
 have hso : isumof (ihd a t pr i fl of_ s d o l x ++ (o ++ (l ++ m))) = 65535 := by
  unfold isumof; rw [eh, k1]; exact hsum
 have hodd : ¬ iodd (ihd a t pr i fl of_ s d o l x ++ (o ++ (l ++ m))) := fun h => h ⟨by rw [e0]; omega, by rw [eh]; omega, by rw [eh, eg]; omega⟩
 unfold iseg; rw [if_neg (by rw [hL]; omega), if_neg hodd, if_neg (by rw [hL, eg]; omega), if_neg (fun h => h hso), eh, eg, k1, k2]; have d1 : (ihd a t pr i fl of_ s d o l x ++ o).drop 20 = o := List.drop_left' hH
 have d2 : (ihd a t pr i fl of_ s d o l x ++ (o ++ l)).drop (20 + (o.length : Int)).toNat = l := by
  rw [t1, <- List.append_assoc, List.drop_left' (by rw [List.length_append])]
 rw [d1, d2]; have b1 : (ihd a t pr i fl of_ s d o l x ++ (o ++ (l ++ m))).getD 1 0 = a := rfl; have b8 : (ihd a t pr i fl of_ s d o l x ++ (o ++ (l ++ m))).getD 8 0 = t := rfl; have b9 : (ihd a t pr i fl of_ s d o l x ++ (o ++ (l ++ m))).getD 9 0 = pr := rfl; have b4 : g16 (ihd a t pr i fl of_ s d o l x ++ (o ++ (l ++ m))) 4 = i / 256 % 256 * 256 + i % 256 := rfl; have b6 : g16 (ihd a t pr i fl of_ s d o l x ++ (o ++ (l ++ m))) 6 = (fl * 8192 + of_) / 256 % 256 * 256 + (fl * 8192 + of_) % 256 := rfl; have b12 : g32 (ihd a t pr i fl of_ s d o l x ++ (o ++ (l ++ m))) 12 = (s / 16777216 % 256 * 256 + s / 65536 % 256) * 65536 + (s / 256 % 256 * 256 + s % 256) := rfl; have b16 : g32 (ihd a t pr i fl of_ s d o l x ++ (o ++ (l ++ m))) 16 = (d / 16777216 % 256 * 256 + d / 65536 % 256) * 65536 + (d / 256 % 256 * 256 + d % 256) := rfl; rw [b1, b8, b9, b4, b6, b12, b16]
 simp only [Prod.mk.injEq, and_true, true_and]; refine ⟨?_, ?_, ?_, ?_, ?_⟩ <;> omega
theorem ibytes_isB (ha : 0 <= a /\ a <= 255) (ht : 0 <= t /\ t <= 255) (hp : 0 <= pr /\ pr <= 255) (ho : IsB o) (hl : IsB l) (h40 : (o.length : Int) <= 40) : IsB (ibytes a t pr i fl of_ s d o l) := ((ihd_isB ha ht hp h40 _).append ho).append hl
theorem ibytes_length : (ibytes a t pr i fl of_ s d o l).length = 20 + o.length + l.length := by
 unfold ibytes; rw [List.length_append, List.length_append, ihd_length]
end
end Go.Proofs.Ytkmimamminddiaa.Pure
namespace Go.Proofs.Ytkmimamminddiaa.Pure
open Go.RowKit Go.Proofs.Ytkmimamminddiaa.PB Go.Proofs.YtkmimamminddiaaW.PrintWords Go.Proofs.YtkmimamminddiaaW.PrintLast
open Go.Proofs.Ytkmimamminddiaa.Spec Go.Proofs.Ytkmimamminddiaa.BytesEq
theorem bits_r32 (op : BinOp) (x y : Int) : 0 <= Go.bits op .u32 x y /\ Go.bits op .u32 x y <= 4294967295 := by
 have h : ∀ n : Int, 0 <= IntKind.u32.wrap n /\ IntKind.u32.wrap n <= 4294967295 := fun n => by
  show 0 <= n % 4294967296 /\ n % 4294967296 <= 4294967295
  omega
 exact h _
theorem bits_r8 (op : BinOp) (x y : Int) : 0 <= Go.bits op .u8 x y /\ Go.bits op .u8 x y <= 255 := by
 have h : ∀ n : Int, 0 <= IntKind.u8.wrap n /\ IntKind.u8.wrap n <= 255 := fun n => by
  show 0 <= n % 256 /\ n % 256 <= 255
  omega
 exact h _
def U32 (x : Int) : Prop := 0 <= x /\ x <= 4294967295
def U16 (x : Int) : Prop := 0 <= x /\ x <= 65535
def U8 (x : Int) : Prop := 0 <= x /\ x <= 255
theorem addr_some (a b c d : Int) : ∃ r, lychseat_Addr.f a b c d = some r /\ U32 r := ⟨_, rfl, bits_r32 _ _ _⟩
theorem addr_bind (a b c d : Int) : ∃ r, ((lychseat_Addr.f a b c d).bind fun t => some t) = some r /\ U32 r := addr_some a b c d
theorem inside_some (a : Int) : ∃ r, lychseat_inside.f a = some r /\ U32 r := by
 unfold lychseat_inside.f
 split
 ·exact addr_bind _ _ _ _
 ·exact addr_bind _ _ _ _
theorem outj1 (k : Nat) (x y : Int) (b : Bool) : ∃ r, lychseat_outside.j1 (k + 1) x y b = some r /\ U32 r := by
 rw [lychseat_outside.j1]
 split
 ·exact addr_bind _ _ _ _
 ·split
  ·exact addr_bind _ _ _ _
  ·exact addr_bind _ _ _ _
theorem outj0 (k : Nat) (x y : Int) (b : Bool) : ∃ r, lychseat_outside.j0 (k + 2) x y b = some r /\ U32 r := by
 rw [lychseat_outside.j0]
 split
 ·exact addr_bind _ _ _ _
 ·split
  ·exact addr_bind _ _ _ _
  ·split
   ·exact addr_bind _ _ _ _
   ·split
    ·exact addr_bind _ _ _ _
    ·split
     ·exact outj1 _ _ _ _
     ·exact outj1 _ _ _ _
theorem outside_some (K : Nat) (hK : 2 <= K) (a b : Int) : ∃ r, lychseat_outside.f K a b = some r /\ U32 r := by
 obtain ⟨k, rfl⟩ : ∃ j, K = j + 2 := ⟨K - 2, by omega⟩
 unfold lychseat_outside.f
 split
 ·exact outj0 _ _ _ _
 ·exact outj0 _ _ _ _
theorem port_some (a : Int) : ∃ r, lychseat_port.f a = some r /\ U16 r := by
 have h : ∀ n : Int, U16 (IntKind.u16.wrap n) := fun n => by
  show 0 <= n % 65536 /\ n % 65536 <= 65535
  omega
 unfold lychseat_port.f
 split
 ·exact ⟨_, rfl, h _⟩
 ·split
  ·exact ⟨_, rfl, by unfold U16; omega⟩
  ·exact ⟨_, rfl, h _⟩
theorem proto_some (a : Int) (ha : 0 <= a) : lychseat_proto.f a = some (rd [17, 6, 1, 17] (a.tmod 4)) /\ (rd [17, 6, 1, 17] (a.tmod 4) = 17 \/ rd [17, 6, 1, 17] (a.tmod 4) = 6 \/ rd [17, 6, 1, 17] (a.tmod 4) = 1) := by
 have h1 : a.tmod 4 < 4 := Int.tmod_lt_of_pos _ (by decide); have h0 : 0 <= a.tmod 4 := Int.tmod_nonneg _ ha
 constructor
 ·unfold lychseat_proto.f
  rw [Option.bind_some, if_pos h0, if_pos (show a.tmod 4 < ((([17, 6, 1, 17] : List Int)).length : Int) from h1)]
 ·generalize a.tmod 4 = i at h1 h0 |-
  obtain rfl | rfl | rfl | rfl : i = 0 \/ i = 1 \/ i = 2 \/ i = 3 := by omega
  ·exact .inl rfl
  ·exact .inr (.inl rfl)
  ·exact .inr (.inr rfl)
  ·exact .inl rfl
def dataS (n : Int) : List Int := abc16.take (n.tmod 16).toNat
theorem abc_isB : IsB abc16 := by
 intro x hx; simp only [abc16, List.mem_cons, List.not_mem_nil, or_false] at hx
 omega
theorem dataS_isB (n : Int) : IsB (dataS n) := abc_isB.take _
theorem dataS_len (n : Int) : (dataS n).length <= 16 := by
 unfold dataS; rw [List.length_take]; have : abc16.length = 16 := rfl
 omega
def optS (n : Int) : List Int := if Go.bits .and .u8 n 32 = 0 then [] else [1, 1, 1, 0]
theorem optS_is (n : Int) : IsB (optS n) /\ ((optS n).length : Int) % 4 = 0 /\ ((optS n).length : Int) <= 4 := by
 unfold optS
 split
 ·exact ⟨.nil, rfl, by decide⟩
 ·refine ⟨fun x hx => ?_, rfl, by decide⟩
  simp only [List.mem_cons, List.not_mem_nil, or_false] at hx
  omega
def typS (fl : Int) : Int := if Go.bits .and .u8 fl 1 = 0 then 8 else 0
def resS (fr n : Int) : Int := Go.bits .or .u32 (fr % 4294967296 * 65536 % 4294967296) (n % 4294967296)
def bodyS (pr a b fr tp fl n : Int) : List Int :=
 if pr = 17 then ubytes fr tp (if Go.bits .and .u8 fl 64 = 0 then usum (usumS a b fr tp (dataS n)) else 0) (dataS n)
 else if pr = 6 then tbytes fr tp (n % 4294967296) 0 (Go.bits .and .u8 fl 23) 9 (65535 - norm (tT a b (tbytes fr tp (n % 4294967296) 0 (Go.bits .and .u8 fl 23) 9 0 0 (optS n) (dataS n)))) 0 (optS n) (dataS n)
 else PureI.ibytes (typS fl) 0 (ck (PureI.ibytes (typS fl) 0 0 (resS fr n) (dataS n))) (resS fr n) (dataS n)
theorem typS_r (fl : Int) : U8 (typS fl) := by
 unfold typS U8
 split <;> omega
theorem body_eq (K : Nat) (hK : 4000 <= K) {pr a b fr tp fl n : Int} (ha : U32 a) (hb : U32 b) (hf : U16 fr) (ht : U16 tp) : seat_body.f K pr a b fr tp fl n = some (bodyS pr a b fr tp fl n) := by
 have hd := dataS_isB n; have hl := dataS_len n; have ho := optS_is n; have hfl := bits_r8 .and fl 23; unfold seat_body.f bodyS
 by_cases c17 : pr = 17
 ·rw [if_pos c17, if_pos c17]
  by_cases c64 : Go.bits .and .u8 fl 64 = 0
  ·rw [if_pos c64, if_pos c64]
   have e1 := rusum_eq (c := 0) ha hb hf ht hd (by omega) K hK; unfold dataS at e1 hl |-
   rw [e1, Option.bind_some, rubytes_eq _ _ _ (by omega), if_neg (by omega)]
   rfl
  ·rw [if_neg c64, if_neg c64]
   unfold dataS at hl |-
   rw [rubytes_eq _ _ _ (by omega), if_neg (by omega)]
   rfl
 ·rw [if_neg c17, if_neg c17]
  by_cases c6 : pr = 6
  ·rw [if_pos c6, if_pos c6]
   have h2 : ∀ o : List Int, IsB o -> ((o.length : Int) % 4 = 0) -> ((o.length : Int) <= 4) -> ((lychref1_TcpSum.f K a b fr tp (n % 4294967296) 0 (Go.bits .and .u8 fl 23) 9 0 0 o (dataS n)).bind fun s => (lychref1_TcpBytes.f K fr tp (n % 4294967296) 0 (Go.bits .and .u8 fl 23) 9 s 0 o (dataS n)).bind fun b => some b.1) = some (tbytes fr tp (n % 4294967296) 0 (Go.bits .and .u8 fl 23) 9 (65535 - norm (tT a b (tbytes fr tp (n % 4294967296) 0 (Go.bits .and .u8 fl 23) 9 0 0 o (dataS n)))) 0 o (dataS n)) := fun o h1 h4 h40 => by
    rw [rtsum_eq ha hb hfl h1 h4 (by omega) hd (by omega) K hK, Option.bind_some, rtbytes_eq (by omega) (by omega) K (by omega), tout_ok h4 (by omega) (by omega)]
    rfl
   unfold optS at ho |-
   by_cases c32 : Go.bits .and .u8 n 32 = 0
   ·rw [if_pos c32] at ho |-
    rw [if_pos c32]; exact h2 [] ho.1 ho.2.1 ho.2.2
   ·rw [if_neg c32] at ho |-
    rw [if_neg c32]; exact h2 _ ho.1 ho.2.1 ho.2.2
  ·rw [if_neg c6, if_neg c6]
   have h2 : ∀ t : Int, U8 t -> ((lychref1_IcmpSum.f K t 0 0 (resS fr n) (dataS n)).bind fun s => (lychref1_IcmpBytes.f t 0 s (resS fr n) (dataS n)).bind fun b => some b.1) = some (PureI.ibytes t 0 (ck (PureI.ibytes t 0 0 (resS fr n) (dataS n))) (resS fr n) (dataS n)) := fun t h1 => by
    rw [PureI.risumf_eq t 0 0 _ _ K hK (by omega) (PureI.ibytes_isB h1 (by omega) hd), Option.bind_some, PureI.ribytes_eq _ _ _ _ (by omega), if_neg (by omega)]
    rfl
   unfold typS
   by_cases c1 : Go.bits .and .u8 fl 1 = 0
   ·rw [if_pos c1, if_pos c1]
    exact h2 8 (by unfold U8; omega)
   ·rw [if_neg c1, if_neg c1]
    exact h2 0 (by unfold U8; omega)
theorem bodyS_is (pr a b fr tp fl n : Int) : IsB (bodyS pr a b fr tp fl n) /\ (bodyS pr a b fr tp fl n).length <= 50 := by
 have hd := dataS_isB n; have hl := dataS_len n; have ho := optS_is n; unfold bodyS
 split
 ·exact ⟨ubytes_isB hd, by rw [ubytes_length]; omega⟩
 ·split
  ·exact ⟨tbytes_isB (bits_r8 _ _ _) ho.1 hd, by rw [tbytes_length]; omega⟩
  ·exact ⟨PureI.ibytes_isB (typS_r fl) (by omega) hd, by rw [PureI.ibytes_length]; omega⟩
def errT (p8 : Int) : Int := rd [3, 11, 12] (p8.tmod 3)
theorem errT_is (p8 : Int) : errT p8 = 3 \/ errT p8 = 11 \/ errT p8 = 12 \/ errT p8 = 0 := by
 unfold errT rd; generalize (p8.tmod 3).toNat = i
 match i with
 | 0 => exact .inl rfl
 | 1 => exact .inr (.inl rfl)
 | 2 => exact .inr (.inr (.inl rfl))
 | n + 3 => exact .inr (.inr (.inr rfl))
def errIn (pr s d fr tp p5 p8 : Int) : List Int := ibytes 0 3 pr 0 0 0 d s [] (bodyS pr d s tp fr p5 p8)
def errS (pr s d fr tp p5 p8 : Int) : List Int := PureI.ibytes (errT p8) 0 (ck (PureI.ibytes (errT p8) 0 0 0 (errIn pr s d fr tp p5 p8))) 0 (errIn pr s d fr tp p5 p8)
theorem ip_ok {a t pr i fl of_ s d : Int} {o l : List Int} (hf : fl <= 7) (hg : of_ <= 8191) (h4 : (o.length : Int) % 4 = 0) (h40 : (o.length : Int) <= 40) (hl : (l.length : Int) <= 3000) : iout a t pr i fl of_ s d o l = (ibytes a t pr i fl of_ s d o l, 0) := by
 unfold iout; rw [if_neg (by unfold iwrong; omega), if_neg (by omega)]
theorem errIn_is {pr s d fr tp p5 p8 : Int} (hp : U8 pr) : IsB (errIn pr s d fr tp p5 p8) /\ (errIn pr s d fr tp p5 p8).length <= 70 := by
 obtain ⟨h1, h2⟩ := bodyS_is pr d s tp fr p5 p8; unfold errIn; refine ⟨ibytes_isB (by omega) (by omega) hp .nil h1 (by decide), ?_⟩; rw [ibytes_length]; have : ([] : List Int).length = 0 := rfl
 omega
theorem errT_r (p8 : Int) : U8 (errT p8) := by
 have := errT_is p8; unfold U8
 omega
theorem errS_is {pr s d fr tp p5 p8 : Int} (hp : U8 pr) : IsB (errS pr s d fr tp p5 p8) /\ (errS pr s d fr tp p5 p8).length <= 80 := by
 obtain ⟨h1, h2⟩ := errIn_is (s := s) (d := d) (fr := fr) (tp := tp) (p5 := p5) (p8 := p8) hp; unfold errS; exact ⟨PureI.ibytes_isB (errT_r p8) (by omega) h1, by rw [PureI.ibytes_length]; omega⟩
theorem er_eq (K : Nat) (hK : 4000 <= K) {pr s d fr tp p5 p7 p8 : Int} {x : List Int} (hp : U8 pr) (hs : U32 s) (hd : U32 d) (hf : U16 fr) (ht : U16 tp) : seat_packet.er K pr s d fr tp p5 p7 p8 x = some (if p7.tmod 5 = 4 then (1, errS pr s d fr tp p5 p8) else (pr, x)) := by
 unfold seat_packet.er
 by_cases c : p7.tmod 5 = 4
 ·rw [if_pos c, if_pos c]
  obtain ⟨b1, b2⟩ := bodyS_is pr d s tp fr p5 p8; obtain ⟨e1, e2⟩ := errIn_is (s := s) (d := d) (fr := fr) (tp := tp) (p5 := p5) (p8 := p8) hp; rw [body_eq K hK hd hs ht hf, Option.bind_some, ribytes_eq (by omega) (by omega) hp (by omega) (by omega) .nil (by decide) (by omega) K (by omega), ip_ok (by omega) (by omega) rfl (by decide) (by omega), Option.bind_some]
  dsimp only
  have e3 := PureI.risumf_eq (rd [3, 11, 12] (p8.tmod 3)) 0 0 0 (errIn pr s d fr tp p5 p8) K hK (by omega) (PureI.ibytes_isB (errT_r p8) (by omega) e1); unfold errIn at e3 e2
  rw [e3, Option.bind_some, PureI.ribytes_eq _ _ _ _ (by omega), if_neg (by omega), Option.bind_some]
  rfl
 ·rw [if_neg c, if_neg c]
theorem sw_is (p6 pr : Int) (hp : U8 pr) : ∃ t pr2 fl of_ o, seat_packet.sw p6 pr = (t, pr2, fl, of_, o) /\ U8 t /\ U8 pr2 /\ (0 <= fl /\ fl <= 2) /\ (0 <= of_ /\ of_ <= 5) /\ IsB o /\ (o.length : Int) % 4 = 0 /\ (o.length : Int) <= 4 := by
 have h64 : U8 64 := by unfold U8; omega
 unfold seat_packet.sw
 split
 ·exact ⟨_, _, _, _, _, rfl, by unfold U8; omega, hp, by omega, by omega, .nil, rfl, by decide⟩
 ·split
  ·exact ⟨_, _, _, _, _, rfl, h64, hp, by omega, by omega, .nil, rfl, by decide⟩
  ·split
   ·exact ⟨_, _, _, _, _, rfl, h64, hp, by omega, by omega, .nil, rfl, by decide⟩
   ·split
    ·exact ⟨_, _, _, _, _, rfl, h64, by unfold U8; omega, by omega, by omega, .nil, rfl, by decide⟩
    ·split
     ·refine ⟨_, _, _, _, _, rfl, h64, hp, by omega, by omega, fun x hx => ?_, rfl, by decide⟩
      simp only [List.mem_cons, List.not_mem_nil, or_false] at hx
      omega
     ·exact ⟨_, _, _, _, _, rfl, h64, hp, by omega, by omega, .nil, rfl, by decide⟩
theorem packet_told (K : Nat) (hK : 4000 <= K) (p0 p1 p2 p3 p4 p5 p6 p7 p8 p9 side n : Int) (h0 : 0 <= p0) : ∃ s d fr tp, U32 s /\ U32 d /\ U16 fr /\ U16 tp /\ lychseat_port.f p3 = some fr /\ lychseat_port.f p4 = some tp /\
  seat_packet.f K p0 p1 p2 p3 p4 p5 p6 p7 p8 p9 side n = some (seat_packet.sp p8 p9 (ibytes 0 (seat_packet.sw p6 (if p7.tmod 5 = 4 then 1 else rd [17, 6, 1, 17] (p0.tmod 4))).1 (seat_packet.sw p6 (if p7.tmod 5 = 4 then 1 else rd [17, 6, 1, 17] (p0.tmod 4))).2.1 (IntKind.u16.wrap p8) (seat_packet.sw p6 (if p7.tmod 5 = 4 then 1 else rd [17, 6, 1, 17] (p0.tmod 4))).2.2.1 (seat_packet.sw p6 (if p7.tmod 5 = 4 then 1 else rd [17, 6, 1, 17] (p0.tmod 4))).2.2.2.1 s d (seat_packet.sw p6 (if p7.tmod 5 = 4 then 1 else rd [17, 6, 1, 17] (p0.tmod 4))).2.2.2.2 (if p7.tmod 5 = 4 then errS (rd [17, 6, 1, 17] (p0.tmod 4)) s d fr tp p5 p8 else bodyS (rd [17, 6, 1, 17] (p0.tmod 4)) s d fr tp p5 p8))) := by
 obtain ⟨s0, e1, hs0⟩ := inside_some p1; obtain ⟨d0, e2, hd0⟩ := outside_some K (by omega) p2 (n % 256)
 obtain ⟨s, d, e3, hs, hd⟩ : ∃ s d, seat_packet.sd K p1 p2 side n s0 d0 = some (s, d) /\ U32 s /\ U32 d := by
  unfold seat_packet.sd
  split
  ·exact ⟨_, _, rfl, hs0, hd0⟩
  ·obtain ⟨s1, f1, hs1⟩ := outside_some K (by omega) p1 (n % 256)
   obtain ⟨d1, f2, hd1⟩ := outside_some K (by omega) ((5 + p2.tmod 3) % 256) (n % 256); rw [f1, Option.bind_some, f2, Option.bind_some]; exact ⟨_, _, rfl, hs1, hd1⟩
 obtain ⟨e4, hpr⟩ := proto_some p0 h0; obtain ⟨fr, e5, hfr⟩ := port_some p3; obtain ⟨tp, e6, htp⟩ := port_some p4; refine ⟨s, d, fr, tp, hs, hd, hfr, htp, e5, e6, ?_⟩; unfold seat_packet.f; rw [e1, Option.bind_some, e2, Option.bind_some, e3, Option.bind_some, e4, Option.bind_some, e5, Option.bind_some, e6, Option.bind_some]; generalize rd [17, 6, 1, 17] (p0.tmod 4) = pr at hpr |-
 have hp8 : U8 pr := by unfold U8; omega
 dsimp only
 rw [body_eq K hK hs hd hfr htp, Option.bind_some, er_eq K hK hp8 hs hd hfr htp, Option.bind_some]; have b1 := bodyS_is pr s d fr tp p5 p8; have b2 := errS_is (s := s) (d := d) (fr := fr) (tp := tp) (p5 := p5) (p8 := p8) hp8
 by_cases c : p7.tmod 5 = 4
 ·rw [if_pos c, if_pos c, if_pos c]
  obtain ⟨t, pr2, fl, of_, o, es, ht, hp2, hfl, hof, ho, h4, h40⟩ := sw_is p6 1 (by unfold U8; omega)
  dsimp only
  rw [es, ribytes_eq (by omega) ht hp2 hfl.1 hof.1 ho (by omega) (by omega) K (by omega), ip_ok (by omega) (by omega) h4 (by omega) (by omega), Option.bind_some]
 ·rw [if_neg c, if_neg c, if_neg c]
  obtain ⟨t, pr2, fl, of_, o, es, ht, hp2, hfl, hof, ho, h4, h40⟩ := sw_is p6 pr hp8
  dsimp only
  rw [es, ribytes_eq (by omega) ht hp2 hfl.1 hof.1 ho (by omega) (by omega) K (by omega), ip_ok (by omega) (by omega) h4 (by omega) (by omega), Option.bind_some]
end Go.Proofs.Ytkmimamminddiaa.Pure
namespace Go.Proofs.Ytkmimamminddiaa.PB
open Go.RowKit Go.Proofs.YtkmimamminddiaaW.PrintWords Go.Proofs.YtkmimamminddiaaW.PrintLast Go.Proofs.YtkmimamminddiaaW.PrintMore
attribute [local go_sem] max2_int min2_int max_two min_two max_three min_three max_four min_four
end Go.Proofs.Ytkmimamminddiaa.PB
namespace Go.Proofs.Ytkmimamminddiaa.Pure
open Go.RowKit Go.Proofs.Ytkmimamminddiaa.PB Go.Proofs.YtkmimamminddiaaW.PrintWords Go.Proofs.YtkmimamminddiaaW.PrintLast
open Go.Proofs.Ytkmimamminddiaa.Spec Go.Proofs.Ytkmimamminddiaa.BytesEq
theorem w12 : wrap64 (1 + 1) = 2 := wrap64_id (by omega) (by omega)
theorem w23 : wrap64 (2 + 1) = 3 := wrap64_id (by omega) (by omega)
theorem w34 : wrap64 (3 + 1) = 4 := wrap64_id (by omega) (by omega)
section
end
end Go.Proofs.Ytkmimamminddiaa.Pure
namespace Go.Proofs.Ytkmimamminddiaa.PB
open Go.RowKit Go.Proofs.YtkmimamminddiaaW.PrintWords Go.Proofs.YtkmimamminddiaaW.PrintLast Go.Proofs.YtkmimamminddiaaW.PrintMore
attribute [local go_sem] max2_int min2_int max_two min_two max_three min_three max_four min_four
attribute [local go_sem] max2_int min2_int max_two min_two max_three min_three max_four min_four
attribute [local go_sem] max2_int min2_int max_two min_two max_three min_three max_four min_four
end Go.Proofs.Ytkmimamminddiaa.PB
namespace Go.Proofs.Ytkmimamminddiaa.Pure
open Go.RowKit Go.Proofs.Ytkmimamminddiaa.PB Go.Proofs.YtkmimamminddiaaW.PrintWords Go.Proofs.YtkmimamminddiaaW.PrintLast
open Go.Proofs.Ytkmimamminddiaa.Spec Go.Proofs.Ytkmimamminddiaa.BytesEq
theorem u8_0 : U8 0 := by unfold U8; omega
theorem u32_0 : U32 0 := by unfold U32; omega
structure IpOk (a t i fl of_ s d : Int) (o : List Int) : Prop where
 ha : U8 a
 ht : U8 t
 hi : U16 i
 hf : 0 <= fl /\ fl <= 7
 hg : 0 <= of_ /\ of_ <= 8191
 hs : U32 s
 hd : U32 d
 ho : IsB o
 h4 : (o.length : Int) % 4 = 0
 h40 : (o.length : Int) <= 40
theorem IpOk.to {a t i fl of_ s d s' d' : Int} {o : List Int} (h : IpOk a t i fl of_ s d o) (hs : U32 s') (hd : U32 d') : IpOk a t i fl of_ s' d' o := ⟨h.ha, h.ht, h.hi, h.hf, h.hg, hs, hd, h.ho, h.h4, h.h40⟩
section
variable {a t i fl of_ s d : Int} {o b : List Int}
theorem IpOk.isB (h : IpOk a t i fl of_ s d o) {pr : Int} (hp : U8 pr) (hb : IsB b) : IsB (ibytes a t pr i fl of_ s d o b) := ibytes_isB h.ha h.ht hp h.ho hb h.h40
theorem IpOk.len (h : IpOk a t i fl of_ s d o) {pr : Int} : (ibytes a t pr i fl of_ s d o b).length = 20 + o.length + b.length := ibytes_length
theorem IpOk.seg (h : IpOk a t i fl of_ s d o) {pr : Int} (hp : U8 pr) (hl : b.length <= 2500) : iseg (ibytes a t pr i fl of_ s d o b) = (a, t, pr, i, fl, of_, s, d, o, b, 0) := by
 have h1 := h.h40; have e := iseg_bytes (a := a) (t := t) (pr := pr) (i := i) (fl := fl) (of_ := of_) (s := s) (d := d) (o := o) (l := b) h.ha h.ht hp h.hi h.hf h.hg h.hs h.hd h.ho h.h40 h.h4 (by omega) []
 rwa [List.append_nil] at e
theorem IpOk.parse (h : IpOk a t i fl of_ s d o) {pr : Int} (hp : U8 pr) (hb : IsB b) (hl : b.length <= 2500) (K : Nat) (hK : 4000 <= K) : ip_Parse.f K (ibytes a t pr i fl of_ s d o b) = some (a, t, pr, i, fl, of_, s, d, o, b, 0) := by
 have h1 := h.h40; have h2 := h.len (b := b) (pr := pr); rw [iparse_eq (h.isB hp hb) (by omega) K (by omega), h.seg hp hl]
theorem IpOk.out (h : IpOk a t i fl of_ s d o) {pr : Int} (hp : U8 pr) (hl : b.length <= 2500) (K : Nat) (hK : 4000 <= K) : ip_Bytes.f K a t pr i fl of_ s d o b = some (ibytes a t pr i fl of_ s d o b, 0) := by
 have h1 := h.h40; rw [ibytes_eq h.ha h.ht hp h.hf.1 h.hg.1 h.ho (by omega) (by omega) K (by omega), ip_ok h.hf.2 h.hg.2 h.h4 h.h40 (by omega)]
theorem u8_1 : U8 1 := by unfold U8; omega
end
section
variable {a t i fl of_ s d ts td tq ta tf tw tc tu : Int} {o to_ tb : List Int}
structure TcpOk (ts td tq ta tf tw tu : Int) (to_ tb : List Int) : Prop where
 hs : U16 ts
 hd : U16 td
 hq : U32 tq
 ha : U32 ta
 hf : U8 tf
 hw : U16 tw
 hu : U16 tu
 ho : IsB to_
 h4 : (to_.length : Int) % 4 = 0
 h40 : (to_.length : Int) <= 40
 hb : IsB tb
 hl : tb.length <= 2000
theorem TcpOk.to {ts' td' : Int} (h : TcpOk ts td tq ta tf tw tu to_ tb) (hs : U16 ts') (hd : U16 td') : TcpOk ts' td' tq ta tf tw tu to_ tb := ⟨hs, hd, h.hq, h.ha, h.hf, h.hw, h.hu, h.ho, h.h4, h.h40, h.hb, h.hl⟩
end
def echoB (t c : Int) : Bool := (t == 8 || t == 0) && c == 0
def withinS (b : List Int) : Option Int :=
 if b.length < 20 then none else if ¬ b.getD 0 0 / 16 = 4 \/ ihead b < 20 \/ (b.length : Int) < ihead b + 8 then none
 else if b.getD 9 0 = 17 \/ b.getD 9 0 = 6 then some (ihead b)
 else if b.getD 9 0 = 1 then (if echoB (b.getD (ihead b).toNat 0) (b.getD ((ihead b).toNat + 1) 0) = true then some (ihead b) else none) else none
def portsS (b : List Int) (h : Nat) : Int × Int := if b.getD 9 0 = 1 then (g16 b (h + 4), g16 b (h + 4)) else (g16 b h, g16 b (h + 2))
def innerS (b : List Int) : Option (S65 × S65) := (withinS b).map fun h => (⟨g32 b 12, (portsS b h.toNat).1⟩, ⟨g32 b 16, (portsS b h.toNat).2⟩)
theorem withinS_is {b : List Int} {h : Int} (e : withinS b = some h) : h = ihead b /\ 20 <= h /\ h + 8 <= (b.length : Int) /\ b.getD 0 0 / 16 = 4 /\ (b.getD 9 0 = 17 \/ b.getD 9 0 = 6 \/ b.getD 9 0 = 1) := by
 unfold withinS at e
 by_cases c1 : b.length < 20
 ·rw [if_pos c1] at e; cases e
 ·rw [if_neg c1] at e
  by_cases c2 : ¬ b.getD 0 0 / 16 = 4 \/ ihead b < 20 \/ (b.length : Int) < ihead b + 8
  ·rw [if_pos c2] at e; cases e
  ·rw [if_neg c2] at e
   have c3 : b.getD 0 0 / 16 = 4 /\ 20 <= ihead b /\ ihead b + 8 <= (b.length : Int) := by
    refine ⟨Decidable.not_not.1 (fun h => c2 (.inl h)), ?_, ?_⟩
    ·have := fun h => c2 (.inr (.inl h)); omega
    ·have := fun h => c2 (.inr (.inr h)); omega
   by_cases c4 : b.getD 9 0 = 17 \/ b.getD 9 0 = 6
   ·rw [if_pos c4] at e
    obtain rfl := Option.some.inj e; exact ⟨rfl, c3.2.1, c3.2.2, c3.1, c4.elim .inl (fun h => .inr (.inl h))⟩
   ·rw [if_neg c4] at e
    by_cases c5 : b.getD 9 0 = 1
    ·rw [if_pos c5] at e
     split at e
     ·obtain rfl := Option.some.inj e
      exact ⟨rfl, c3.2.1, c3.2.2, c3.1, .inr (.inr c5)⟩
     ·cases e
    ·rw [if_neg c5] at e; cases e
theorem echo_is (t c a d : Int) (l : List Int) : icmp_Echo.f t c a d l = some (echoB t c) := by
 unfold icmp_Echo.f icmp_kind.f echoB
 by_cases h0 : t = 0
 ·subst h0
  rw [if_pos rfl, Option.bind_some, if_pos rfl]
  rfl
 ·rw [if_neg h0]
  by_cases h8 : t = 8
  ·subst h8
   rw [if_pos rfl, Option.bind_some, if_pos rfl]
   rfl
  ·rw [if_neg h8]
   have e1 : (t == 8) = false := beq_eq_false_iff_ne.2 h8; have e2 : (t == 0) = false := beq_eq_false_iff_ne.2 h0; rw [e1, e2]
   split
   ·rfl
   ·split
    ·rfl
    ·split <;> rfl
def errB (t : Int) : Bool := t == 3 || t == 11 || t == 12
theorem error_is (t c a d : Int) (l : List Int) : icmp_Error.f t c a d l = some (errB t) := by
 unfold icmp_Error.f icmp_kind.f errB
 by_cases h0 : t = 0
 ·subst h0; rfl
 ·rw [if_neg h0]
  by_cases h8 : t = 8
  ·subst h8; rfl
  ·rw [if_neg h8]
   by_cases h3 : t = 3
   ·subst h3; rfl
   ·rw [if_neg h3]
    by_cases h11 : t = 11
    ·subst h11; rfl
    ·rw [if_neg h11]
     by_cases h12 : t = 12
     ·subst h12; rfl
     ·rw [if_neg h12, Option.bind_some, beq_eq_false_iff_ne.2 h3, beq_eq_false_iff_ne.2 h11, beq_eq_false_iff_ne.2 h12]
      rfl
theorem two_at {b : List Int} (h : IsB b) (i : Nat) (hi : i + 2 <= b.length) : rewrite_two.f (b.drop i) = some (g16 b i) := by
 have hl : (b.drop i).length = b.length - i := List.length_drop; unfold rewrite_two.f; rw [if_pos (by omega), if_pos (by omega)]
 have e0 : rd (b.drop i) 0 = b.getD i 0 := by
  rw [rd_nat _ 0 0 rfl]
  simp [List.getD_eq_getElem?_getD]
 have e1 : rd (b.drop i) 1 = b.getD (i + 1) 0 := by
  rw [rd_nat _ 1 1 rfl]
  simp [List.getD_eq_getElem?_getD]
 rw [e0, e1, word16 (h.getD i) (h.getD (i + 1))]
 rfl
theorem four_at {b : List Int} (h : IsB b) (i : Nat) (hi : i + 4 <= b.length) : rewrite_four.f (b.drop i) = some (g32 b i) := by
 have hl : (b.drop i).length = b.length - i := List.length_drop; unfold rewrite_four.f; rw [two_at h i (by omega), Option.bind_some, if_pos (by omega), List.drop_drop, two_at h (i + 2) (by omega), Option.bind_some, word32 (g16_range h i) (g16_range h (i + 2))]
 rfl
theorem within_eq {b : List Int} (h : IsB b) (hl : b.length <= 1000000000) (K : Nat) (hK : 3 <= K) : ∃ x, rewrite_within.f K b = some (x, (withinS b).isSome) /\ ∀ y, withinS b = some y -> x = y := by
 obtain ⟨k, rfl⟩ : ∃ j, K = j + 3 := ⟨K - 3, by omega⟩
 have hh := ihead_range b; have hd := ihead_eq h; have r0 : rd b 0 = b.getD 0 0 := rd_nat b 0 0 rfl; have r9 : rd b 9 = b.getD 9 0 := rd_nat b 9 9 rfl; have w8 : wrap64 (ihead b + 8) = ihead b + 8 := wrap64_id (by omega) (by omega); unfold rewrite_within.f withinS
 by_cases c1 : b.length < 20
 ·rw [if_pos (show (b.length : Int) < 20 by omega), if_pos c1]
  exact ⟨_, rfl, fun y e => by cases e⟩
 ·rw [if_neg (show ¬ (b.length : Int) < 20 by omega), if_neg c1, if_pos (by omega), hd, r0, w8]
  have jt : rewrite_within.j0 (k + 3) b (ihead b) true = some (0, false) := by rw [rewrite_within.j0, if_pos rfl]
  by_cases c2 : b.getD 0 0 / 16 = 4
  ·rw [if_pos c2]
   by_cases c3 : ihead b < 20
   ·rw [if_pos c3, if_pos (.inr (.inl c3)), jt]
    exact ⟨_, rfl, fun y e => by cases e⟩
   ·rw [if_neg c3]
    by_cases c4 : (b.length : Int) < ihead b + 8
    ·rw [if_pos (.inr (.inr c4)), decide_eq_true c4, jt]
     exact ⟨_, rfl, fun y e => by cases e⟩
    ·rw [if_neg (fun hh => hh.elim (fun x => x c2) (fun x => x.elim c3 c4)), decide_eq_false c4, rewrite_within.j0, if_neg (by decide), if_pos (show 9 < (b.length : Int) by omega), r9]
     have j1t : ∀ x, rewrite_within.j1 (k + 2) b (ihead b) x true = some (ihead b, true) := fun x => by rw [rewrite_within.j1, if_pos rfl]
     by_cases c17 : b.getD 9 0 = 17
     ·rw [if_pos c17, if_pos (.inl c17), beq_iff_eq.2 c17, j1t]
      exact ⟨_, rfl, fun y e => Option.some.inj e⟩
     ·rw [if_neg c17]
      by_cases c6 : b.getD 9 0 = 6
      ·rw [if_pos (.inr c6), beq_iff_eq.2 c6, j1t]
       exact ⟨_, rfl, fun y e => Option.some.inj e⟩
      ·rw [if_neg (fun hh => hh.elim c17 c6), beq_eq_false_iff_ne.2 c6, rewrite_within.j1, if_neg (by decide)]
       by_cases c5 : b.getD 9 0 = 1
       ·rw [if_pos c5, if_pos c5, if_pos (by omega), if_pos (by omega)]
        have hdl : (b.drop (ihead b).toNat).length = b.length - (ihead b).toNat := List.length_drop
        have e0 : rd (b.drop (ihead b).toNat) 0 = b.getD (ihead b).toNat 0 := by
         rw [rd_nat _ 0 0 rfl]
         simp [List.getD_eq_getElem?_getD]
        have e1 : rd (b.drop (ihead b).toNat) 1 = b.getD ((ihead b).toNat + 1) 0 := by
         rw [rd_nat _ 1 1 rfl]
         simp [List.getD_eq_getElem?_getD]
        have e2 : rewrite_echo.f (b.drop (ihead b).toNat) = some (echoB (b.getD (ihead b).toNat 0) (b.getD ((ihead b).toNat + 1) 0)) := by
         unfold rewrite_echo.f; rw [if_pos (by omega), if_pos (by omega), e0, e1, echo_is, Option.bind_some]
        rw [e2, Option.bind_some]
        by_cases c7 : echoB (b.getD (ihead b).toNat 0) (b.getD ((ihead b).toNat + 1) 0) = true
        ·rw [if_pos c7, c7]
         exact ⟨_, rfl, fun y e => Option.some.inj e⟩
        ·rw [if_neg c7, Bool.eq_false_iff.2 c7]
         exact ⟨_, rfl, fun y e => by cases e⟩
       ·rw [if_neg c5, if_neg c5]
        exact ⟨_, rfl, fun y e => by cases e⟩
  ·rw [if_neg c2, if_pos (.inl c2), jt]
   exact ⟨_, rfl, fun y e => by cases e⟩
theorem inner_eq {b : List Int} (h : IsB b) (hl : b.length <= 1000000000) (K : Nat) (hK : 3 <= K) : rewrite_inner.f K b = some (match innerS b with | none => ([], false) | some p => ([p.1, p.2], true)) := by
 obtain ⟨x, e, hx⟩ := within_eq h hl K hK; unfold rewrite_inner.f innerS; rw [e, Option.bind_some]
 cases hw : withinS b with
 | none => rfl
 | some y =>
  obtain rfl := hx y hw; obtain ⟨he, h20, h8, h4, hp⟩ := withinS_is hw; have r9 : rd b 9 = b.getD 9 0 := rd_nat b 9 9 rfl; have hr := ihead_range b; have w2 : wrap64 (x + 2) = x + 2 := wrap64_id (by omega) (by omega); have w4 : wrap64 (x + 4) = x + 4 := wrap64_id (by omega) (by omega); have t2 : (x + 2).toNat = x.toNat + 2 := by omega
  have t4 : (x + 4).toNat = x.toNat + 4 := by omega
  dsimp only [Option.isSome_some, Option.map_some]; rw [if_pos rfl, if_pos (by omega), if_pos (by omega), two_at h _ (by omega), Option.bind_some, w2, if_pos (by omega), if_pos (by omega), t2, two_at h _ (by omega), Option.bind_some, if_pos (by omega), r9]; unfold portsS
  by_cases c : b.getD 9 0 = 1
  ·rw [if_pos c, if_pos c, w4, if_pos (by omega), if_pos (by omega), t4, two_at h _ (by omega), Option.bind_some, if_pos (by omega), four_at h 12 (by omega), Option.bind_some, if_pos (by omega), four_at h 16 (by omega), Option.bind_some]
  ·rw [if_neg c, if_neg c, if_pos (by omega), four_at h 12 (by omega), Option.bind_some, if_pos (by omega), four_at h 16 (by omega), Option.bind_some]
section
variable {a t i fl of_ s d mt mc ms mr : Int} {o mb : List Int}
def msum (mt mc mr : Int) (mb : List Int) : Int := ck (PureI.ibytes mt mc 0 mr mb)
theorem msum_u16 (h1 : U8 mt) (h2 : U8 mc) (hb : IsB mb) : U16 (msum mt mc mr mb) := ck_range _ (PureI.ibytes_isB h1 h2 hb)
theorem lk_icmp_is (h : IpOk a t i fl of_ s d o) (h1 : U8 mt) (h2 : U8 mc) (hr : U32 mr) (hb : IsB mb) (hl : mb.length <= 2000) (hs : ms = msum mt mc mr mb) (K : Nat) (hK : 4000 <= K) (il : List S65) (ok : Bool) (hi : rewrite_inner.f K mb = some (il, ok)) {r : LK} (hc : (echoB mt mc = true /\ r = ⟨a, t, 1, i, fl, of_, s, d, o, PureI.ibytes mt mc ms mr mb, .icmp mt mc ms mr mb, mr / 65536 % 65536, mr / 65536 % 65536, 0, [], 0⟩) \/ (echoB mt mc = false /\ errB mt = true /\ ok = true /\ r = ⟨a, t, 1, i, fl, of_, s, d, o, PureI.ibytes mt mc ms mr mb, .icmp mt mc ms mr mb, 0, 0, 0, il, 0⟩)) :
  lookIcmp K a t i fl of_ s d o (PureI.ibytes mt mc ms mr mb) = some r := by
 have e1 := PureI.ibytes_length mt mc ms mr mb; have h16 : U16 ms := hs ▸ msum_u16 h1 h2 hb; have hB : IsB (PureI.ibytes mt mc ms mr mb) := PureI.ibytes_isB h1 h2 hb; have ho : norm (isum (words (PureI.ibytes mt mc ms mr mb))) = 65535 := by rw [hs]; exact PureI.iown mt mc mr mb (PureI.ibytes_isB h1 h2 hb)
 unfold lookIcmp; rw [PureI.iparse_eq hB (by omega), PureI.imsg_ibytes h16 hr, Option.bind_some]
 dsimp only
 rw [if_pos rfl, (PureI.iright_eq h1 h2 hb (by omega) K hK).1, Option.bind_some, if_pos (beq_iff_eq.2 ho), hi, Option.bind_some]
 dsimp only
 rw [echo_is, Option.bind_some]
 rcases hc with ⟨c1, c2⟩ | ⟨c1, c2, c3, c4⟩
 ·rw [if_pos c1, c2]
 ·rw [if_neg (by rw [c1]; decide), error_is, Option.bind_some, if_pos c2, if_pos c3, c4]
end
section
end
theorem wrap_p8 {p8 : Int} (h : 0 <= p8 /\ p8 <= 255) : U16 (IntKind.u16.wrap p8) := by
 rw [IntKind.wrap_u16]; unfold U16
 omega
theorem sp_none (p8 : Int) (b : List Int) : seat_packet.sp p8 0 b = b := by
 unfold seat_packet.sp; rw [if_neg (by decide)]
section
end
theorem errT_nn {p8 : Int} (h : 0 <= p8) : errT p8 = 3 \/ errT p8 = 11 \/ errT p8 = 12 := by
 have h1 := Int.tmod_nonneg 3 h; have h2 := Int.tmod_lt_of_pos p8 (show (0 : Int) < 3 by decide); unfold errT; have h3 : p8.tmod 3 = 0 \/ p8.tmod 3 = 1 \/ p8.tmod 3 = 2 := by omega
 rcases h3 with h | h | h <;> rw [h]
 ·exact .inl rfl
 ·exact .inr (.inl rfl)
 ·exact .inr (.inr rfl)
theorem echoB_typ (fl : Int) : echoB (typS fl) 0 = true := by
 unfold typS
 split <;> rfl
theorem bodyS_long (pr a b fr tp fl n : Int) : 8 <= (bodyS pr a b fr tp fl n).length := by
 unfold bodyS
 split
 ·rw [ubytes_length]; omega
 ·split
  ·rw [tbytes_length]; omega
  ·rw [PureI.ibytes_length]; omega
theorem errIn_within {pr s d fr tp p5 p8 : Int} (hp : pr = 17 \/ pr = 6 \/ pr = 1) : withinS (errIn pr s d fr tp p5 p8) = some 20 := by
 have h1 := bodyS_long pr d s tp fr p5 p8; have hl : (errIn pr s d fr tp p5 p8).length = 20 + (bodyS pr d s tp fr p5 p8).length := by unfold errIn; rw [ibytes_length]; rfl
 have e0 : (errIn pr s d fr tp p5 p8).getD 0 0 = 69 := rfl; have e9 : (errIn pr s d fr tp p5 p8).getD 9 0 = pr := rfl; have eh : ihead (errIn pr s d fr tp p5 p8) = 20 := by unfold ihead; rw [e0]; rfl
 unfold withinS; rw [if_neg (by omega), if_neg (by rw [e0, eh]; omega), e9, eh]
 rcases hp with h | h | h
 ·rw [if_pos (.inl h)]
 ·rw [if_pos (.inr h)]
 ·rw [if_neg (by omega), if_pos h]
  subst h; have e20 : (errIn 1 s d fr tp p5 p8).getD (20 : Int).toNat 0 = typS p5 := rfl; have e21 : (errIn 1 s d fr tp p5 p8).getD ((20 : Int).toNat + 1) 0 = 0 := rfl; rw [e20, e21, if_pos (echoB_typ p5)]
end Go.Proofs.Ytkmimamminddiaa.Pure
namespace Go.Proofs.Ytkmimamminddiaa.PB
open Go.RowKit Go.Proofs.YtkmimamminddiaaW.PrintWords Go.Proofs.YtkmimamminddiaaW.PrintLast Go.Proofs.YtkmimamminddiaaW.PrintMore
end Go.Proofs.Ytkmimamminddiaa.PB
namespace Go.Proofs.Ytkmimamminddiaa.Pure
open Go.RowKit Go.Proofs.Ytkmimamminddiaa.PB Go.Proofs.YtkmimamminddiaaW.PrintWords Go.Proofs.YtkmimamminddiaaW.PrintLast
open Go.Proofs.Ytkmimamminddiaa.Spec Go.Proofs.Ytkmimamminddiaa.BytesEq
theorem take_range (l : List Int) (n : Nat) (h : n <= l.length) : l.take n = (List.range n).map (fun j => l.getD j 0) := by
 apply List.ext_getElem?
 intro j
 by_cases hj : j < n
 ·rw [List.getElem?_take, if_pos hj, List.getElem?_map, List.getElem?_range hj, Option.map_some, List.getD_eq_getElem?_getD, List.getElem?_eq_getElem (by omega)]
  rfl
 ·rw [List.getElem?_eq_none (by rw [List.length_take]; omega), List.getElem?_eq_none (by rw [List.length_map, List.length_range]; omega)]
theorem iseg_inv {l : List Int} (h : IsB l) {a t pr i fl of_ s d : Int} {o b : List Int} (e : iseg l = (a, t, pr, i, fl, of_, s, d, o, b, 0)) :
  l.take (g16 l 2).toNat = ihd a t pr i fl of_ s d o b (g16 l 10) ++ o ++ b /\ 20 <= l.length /\ g16 l 2 = 20 + (o.length : Int) + (b.length : Int) /\ g16 l 2 <= (l.length : Int) /\ ihead l = 20 + (o.length : Int) /\ isumof l = 65535 := by
 unfold iseg at e
 by_cases c1 : l.length < 20
 ·rw [if_pos c1] at e; simp at e
 ·rw [if_neg c1] at e
  by_cases c2 : iodd l
  ·rw [if_pos c2] at e; simp at e
  ·rw [if_neg c2] at e
   by_cases c3 : (l.length : Int) < g16 l 2
   ·rw [if_pos c3] at e; simp at e
   ·rw [if_neg c3] at e
    by_cases c4 : isumof l ≠ 65535
    ·rw [if_pos c4] at e; simp at e
    ·rw [if_neg c4] at e
     have c4' : isumof l = 65535 := Decidable.not_not.1 c4
     have c5 : l.getD 0 0 / 16 = 4 /\ ihead l >= 20 /\ g16 l 2 >= ihead l := by
      unfold iodd at c2
      exact Decidable.not_not.1 c2
     simp only [Prod.mk.injEq, and_true] at e
     obtain ⟨ea, et, ep, ei, ef, eo, es, ed, eop, eb⟩ := e; have hh := ihead_range l; have hg := g16_range h 2
     have ho : (o.length : Int) = ihead l - 20 := by
      rw [<- eop, List.length_drop, List.length_take]
      omega
     have hb : (b.length : Int) = g16 l 2 - ihead l := by
      rw [<- eb, List.length_drop, List.length_take]
      omega
     refine ⟨?_, by omega, by omega, by omega, by omega, c4'⟩
     have t1 : l.take (g16 l 2).toNat = l.take (ihead l).toNat ++ b := by
      rw [<- eb]
      conv => lhs; rw [<- List.take_append_drop (ihead l).toNat (l.take (g16 l 2).toNat)]
      rw [List.take_take, Nat.min_eq_left (by omega)]
     have t2 : l.take (ihead l).toNat = l.take 20 ++ o := by
      rw [<- eop]
      conv => lhs; rw [<- List.take_append_drop 20 (l.take (ihead l).toNat)]
      rw [List.take_take, Nat.min_eq_left (by omega)]
     rw [t1, t2, take_range l 20 (by omega)]
     congr 2
     have hx : ∀ j, 0 <= l.getD j 0 /\ l.getD j 0 <= 255 := h.getD; unfold ihd
     have u0 : l.getD 0 0 = 64 + (20 + (o.length : Int)) / 4 := by
      have := hx 0; have h1 : ihead l = 4 * (l.getD 0 0 % 16) := rfl
      omega
     have u2 : l.getD 2 0 = (20 + (o.length : Int) + (b.length : Int)) / 256 % 256 := by
      have h1 : g16 l 2 = l.getD 2 0 * 256 + l.getD 3 0 := rfl; have := hx 2; have := hx 3
      omega
     have u3 : l.getD 3 0 = (20 + (o.length : Int) + (b.length : Int)) % 256 := by
      have h1 : g16 l 2 = l.getD 2 0 * 256 + l.getD 3 0 := rfl; have := hx 2; have := hx 3
      omega
     have w16 : ∀ j n, g16 l j = n -> l.getD j 0 = n / 256 % 256 /\ l.getD (j + 1) 0 = n % 256 := fun j n hn => by
      have h1 : g16 l j = l.getD j 0 * 256 + l.getD (j + 1) 0 := rfl; have := hx j; have := hx (j + 1)
      omega
     have w32 : ∀ j n, g32 l j = n -> l.getD j 0 = n / 16777216 % 256 /\ l.getD (j + 1) 0 = n / 65536 % 256 /\ l.getD (j + 2) 0 = n / 256 % 256 /\ l.getD (j + 3) 0 = n % 256 := fun j n hn => by
      have h1 : g32 l j = (l.getD j 0 * 256 + l.getD (j + 1) 0) * 65536 + (l.getD (j + 2) 0 * 256 + l.getD (j + 2 + 1) 0) := rfl; have := hx j; have := hx (j + 1); have := hx (j + 2); have := hx (j + 3); have e3 : l.getD (j + 2 + 1) 0 = l.getD (j + 3) 0 := rfl
      omega
     have u4 := w16 4 i ei; have u6 := w16 6 (fl * 8192 + of_) (by have := g16_range h 6; omega); have u10 := w16 10 _ rfl; have u12 := w32 12 s es; have u16 := w32 16 d ed; have hr : (List.range 20).map (fun j => l.getD j 0) = [l.getD 0 0, l.getD 1 0, l.getD 2 0, l.getD 3 0, l.getD 4 0, l.getD 5 0, l.getD 6 0, l.getD 7 0, l.getD 8 0, l.getD 9 0, l.getD 10 0, l.getD 11 0, l.getD 12 0, l.getD 13 0, l.getD 14 0, l.getD 15 0, l.getD 16 0, l.getD 17 0, l.getD 18 0, l.getD 19 0] := rfl
     rw [hr, ea, et, ep, u0, u2, u3, u4.1, show l.getD 5 0 = i % 256 from u4.2, u6.1, show l.getD 7 0 = (fl * 8192 + of_) % 256 from u6.2, u10.1, show l.getD 11 0 = g16 l 10 % 256 from u10.2, u12.1, show l.getD 13 0 = s / 65536 % 256 from u12.2.1, show l.getD 14 0 = s / 256 % 256 from u12.2.2.1, show l.getD 15 0 = s % 256 from u12.2.2.2, u16.1, show l.getD 17 0 = d / 65536 % 256 from u16.2.1, show l.getD 18 0 = d / 256 % 256 from u16.2.2.1, show l.getD 19 0 = d % 256 from u16.2.2.2]
theorem own_eq {l : List Int} (h : IsB l) (h20 : 20 <= l.length) (hg : g16 l 2 <= (l.length : Int)) : rewrite_own.f l = some (l.take (g16 l 2).toNat, ihead l) := by
 have hr := g16_range h 2; unfold rewrite_own.f; rw [if_pos (by omega), two_at h 2 (by omega), Option.bind_some, if_pos hr.1, if_pos hg, clone_eq _ (by rw [List.length_take]; omega), Option.bind_some, if_pos (by omega), ihead_eq h]
theorem set_app (p xs : List Int) (j : Nat) (v : Int) : (p ++ xs).set (p.length + j) v = p ++ xs.set j v := by
 induction p with
 | nil => simp
 | cons a p ih => simp only [List.cons_append, List.length_cons, Nat.add_right_comm, List.set_cons_succ, ih]
theorem put2L_app (p xs : List Int) (n j : Nat) (v : Int) (h : n = p.length + j) : put2L (p ++ xs) n v = p ++ put2L xs j v := by
 subst h; unfold put2L; rw [set_app, Nat.add_assoc, set_app]
theorem getD_set (xs : List Int) (i j : Nat) (v : Int) (h : j < xs.length) : (xs.set j v).getD i 0 = if i = j then v else xs.getD i 0 := by
 rw [List.getD_eq_getElem?_getD, List.getElem?_set, List.getD_eq_getElem?_getD]
 by_cases e : j = i
 ·subst e; rw [if_pos rfl, if_pos h, if_pos rfl]; rfl
 ·rw [if_neg e, if_neg (fun q => e q.symm)]
theorem getD_put2L (xs : List Int) (i j : Nat) (v : Int) (h : j + 2 <= xs.length) : (put2L xs j v).getD i 0 = if i = j + 1 then v % 256 else if i = j then v / 256 % 256 else xs.getD i 0 := by
 unfold put2L; rw [getD_set _ _ _ _ (by rw [List.length_set]; omega), getD_set _ _ _ _ (by omega)]
theorem getD_far (xs : List Int) (i j : Nat) (v : Int) (h : j + 2 <= xs.length) (hf : i < j \/ j + 2 <= i) : (put2L xs j v).getD i 0 = xs.getD i 0 := by
 rw [getD_put2L _ _ _ _ h, if_neg (by omega), if_neg (by omega)]
theorem g16_put2L (xs : List Int) (j : Nat) (v : Int) (h : j + 2 <= xs.length) (hv : U16 v) : g16 (put2L xs j v) j = v := by
 show (put2L xs j v).getD j 0 * 256 + (put2L xs j v).getD (j + 1) 0 = v
 rw [getD_put2L _ _ _ _ h, getD_put2L _ _ _ _ h, if_neg (by omega), if_pos rfl, if_pos rfl]; unfold U16 at hv
 omega
theorem g16_far (xs : List Int) (i j : Nat) (v : Int) (h : j + 2 <= xs.length) (hf : i + 2 <= j \/ j + 2 <= i) : g16 (put2L xs j v) i = g16 xs i := by
 show (put2L xs j v).getD i 0 * 256 + (put2L xs j v).getD (i + 1) 0 = xs.getD i 0 * 256 + xs.getD (i + 1) 0
 rw [getD_far _ _ _ _ h (by omega), getD_far _ _ _ _ h (by omega)]
theorem put2L_isB {xs : List Int} (h : IsB xs) (j : Nat) (v : Int) : IsB (put2L xs j v) := (h.set j (by omega)).set (j + 1) (by omega)
def putW : List Int -> Nat -> List Int -> List Int
 | xs, _, [] => xs
 | xs, q, n :: ns => putW (put2L xs q n) (q + 2) ns
theorem putW_app (p : List Int) : ∀ (ns xs : List Int) (n j : Nat), n = p.length + j -> putW (p ++ xs) n ns = p ++ putW xs j ns
 | [], xs, n, j, h => rfl
 | v :: ns, xs, n, j, h => by
  rw [putW, put2L_app p xs n j v h, putW_app p ns _ (n + 2) (j + 2) (by omega), putW]
theorem upd_some (K : Nat) (hK : 4 <= K) {x o n : Int} (hx : U16 x) (ho : U16 o) (hn : U16 n) : ∃ y, U16 y /\ sum_Update.f K x o n = some y := by
 unfold U16 at hx ho hn
 have e := SumEq.fold_eq ((65535 - x + (65535 - o) + n) % 4294967296) (by omega) (by omega) K (by omega); have hr := norm_range ((65535 - x + (65535 - o) + n) % 4294967296) (by omega); refine ⟨65535 - norm ((65535 - x + (65535 - o) + n) % 4294967296), ?_, ?_⟩
 rotate_left
 ·unfold sum_Update.f
  rw [show IntKind.u16.max = 65535 from rfl, not_u16 hx.1 hx.2, not_u16 ho.1 ho.2, e, Option.bind_some, not_u16 hr.1 hr.2]
 ·unfold U16; omega
theorem innL_is (K : Nat) (hK : 4 <= K) (a : Nat) : ∀ (ns : List Int) (j : Nat) (x : Int) (out : List Int), IsB out -> a + 12 + 2 * (j + ns.length) <= out.length -> (∀ n ∈ ns, U16 n) -> U16 x -> ∃ x', U16 x' /\ innL K a ns j x out = some (x', putW out (a + 12 + 2 * j) ns)
 | [], j, x, out, _, _, _, hx => ⟨x, hx, rfl⟩
 | n :: ns, j, x, out, hb, hl, hn, hx => by
  rw [List.length_cons] at hl
  have hn1 := hn n (List.mem_cons_self ..); have ho := two_at hb (a + 12 + 2 * j) (by omega); obtain ⟨x1, hx1, e1⟩ := upd_some K hK hx (g16_range hb (a + 12 + 2 * j)) hn1; obtain ⟨x', hx', e2⟩ := innL_is K hK a ns (j + 1) x1 (put2L out (a + 12 + 2 * j) n) (put2L_isB hb _ _) (by rw [put2L_length]; omega) (fun m hm => hn m (List.mem_cons_of_mem _ hm)) hx1; refine ⟨x', hx', ?_⟩; rw [innL, ho, Option.bind_some, e1, Option.bind_some, e2, putW, show a + 12 + 2 * (j + 1) = a + 12 + 2 * j + 2 from by omega]
def inM (mb : List Int) (x : Int) (h : Nat) (si sp di dp : Int) : List Int := innP (mb.getD 9 0) (put2L (putW mb 12 (innW si di)) 10 x) 0 h sp dp
theorem innW_r {si di : Int} : ∀ n ∈ innW si di, U16 n := fun n hn => by
 simp only [innW, List.mem_cons, List.not_mem_nil, or_false] at hn
 unfold U16
 omega
theorem innW_put (mb : List Int) (si di : Int) : putW mb 12 (innW si di) = put2L (put2L (put2L (put2L mb 12 (si / 65536 % 65536)) 14 (si % 65536)) 16 (di / 65536 % 65536)) 18 (di % 65536) := rfl
section
variable {mb : List Int} {x si sp di dp : Int} {h : Nat}
theorem inM_length : (inM mb x h si sp di dp).length = mb.length := by
 unfold inM innP
 split <;> simp only [put2L_length, innW_put]
theorem inM_isB (hb : IsB mb) : IsB (inM mb x h si sp di dp) := by
 have h1 : IsB (put2L (putW mb 12 (innW si di)) 10 x) := by
  rw [innW_put]; exact put2L_isB (put2L_isB (put2L_isB (put2L_isB (put2L_isB hb _ _) _ _) _ _) _ _) _ _
 unfold inM innP
 split
 ·exact put2L_isB h1 _ _
 ·exact put2L_isB (put2L_isB h1 _ _) _ _
theorem inW_far (h20 : 20 <= mb.length) (i : Nat) (hf : i < 10 \/ 20 <= i) : (put2L (putW mb 12 (innW si di)) 10 x).getD i 0 = mb.getD i 0 := by
 rw [innW_put]
 repeat rw [getD_far _ _ _ _ (by (try simp only [put2L_length]); omega) (by omega)]
theorem inM_far (h20 : 20 <= h) (hl : h + 8 <= mb.length) (i : Nat) (hf : i < 10 \/ 20 <= i /\ (i < h + (if mb.getD 9 0 = 1 then 4 else 0) \/ h + 6 <= i)) : (inM mb x h si sp di dp).getD i 0 = mb.getD i 0 := by
 have hw : (put2L (putW mb 12 (innW si di)) 10 x).length = mb.length := by rw [innW_put]; simp only [put2L_length]
 unfold inM innP
 by_cases c : mb.getD 9 0 = 1
 ·rw [if_pos c] at hf |-
  rw [getD_far _ _ _ _ (by omega) (by omega), inW_far (by omega) i (by omega)]
 ·rw [if_neg c] at hf |-
  rw [getD_far _ _ _ _ (by rw [put2L_length]; omega) (by omega), getD_far _ _ _ _ (by omega) (by omega), inW_far (by omega) i (by omega)]
theorem inM_word (h20 : 20 <= h) (hl : h + 8 <= mb.length) (i : Nat) (hf : 12 <= i /\ i + 2 <= 20) : g16 (inM mb x h si sp di dp) i = g16 (putW mb 12 (innW si di)) i := by
 have hw : (put2L (putW mb 12 (innW si di)) 10 x).length = mb.length := by rw [innW_put]; simp only [put2L_length]
 have hw2 : (putW mb 12 (innW si di)).length = mb.length := by rw [innW_put]; simp only [put2L_length]
 unfold inM innP
 split
 ·rw [g16_far _ _ _ _ (by omega) (by omega), g16_far _ _ _ _ (by omega) (by omega)]
 ·rw [g16_far _ _ _ _ (by rw [put2L_length]; omega) (by omega), g16_far _ _ _ _ (by omega) (by omega), g16_far _ _ _ _ (by omega) (by omega)]
theorem inW_words (hl : 20 <= mb.length) : g16 (putW mb 12 (innW si di)) 12 = si / 65536 % 65536 /\ g16 (putW mb 12 (innW si di)) 14 = si % 65536 /\ g16 (putW mb 12 (innW si di)) 16 = di / 65536 % 65536 /\ g16 (putW mb 12 (innW si di)) 18 = di % 65536 := by
 rw [innW_put]; refine ⟨?_, ?_, ?_, ?_⟩
 ·rw [g16_far _ _ _ _ (by (try simp only [put2L_length]); omega) (by omega), g16_far _ _ _ _ (by (try simp only [put2L_length]); omega) (by omega), g16_far _ _ _ _ (by (try simp only [put2L_length]); omega) (by omega), g16_put2L _ _ _ (by (try simp only [put2L_length]); omega) (by unfold U16; omega)]
 ·rw [g16_far _ _ _ _ (by (try simp only [put2L_length]); omega) (by omega), g16_far _ _ _ _ (by (try simp only [put2L_length]); omega) (by omega), g16_put2L _ _ _ (by (try simp only [put2L_length]); omega) (by unfold U16; omega)]
 ·rw [g16_far _ _ _ _ (by (try simp only [put2L_length]); omega) (by omega), g16_put2L _ _ _ (by (try simp only [put2L_length]); omega) (by unfold U16; omega)]
 ·rw [g16_put2L _ _ _ (by (try simp only [put2L_length]); omega) (by unfold U16; omega)]
theorem inM_points {y : Int} (hw : withinS mb = some y) (k1 : U32 si) (k2 : U16 sp) (k3 : U32 di) (k4 : U16 dp) (hq : mb.getD 9 0 = 1 -> sp = dp) : withinS (inM mb x y.toNat si sp di dp) = some y /\ innerS (inM mb x y.toNat si sp di dp) = some (⟨si, sp⟩, ⟨di, dp⟩) := by
 obtain ⟨he, h20, h8, h4, hp⟩ := withinS_is hw; have hl := inM_length (mb := mb) (x := x) (si := si) (sp := sp) (di := di) (dp := dp) (h := y.toNat); have far := inM_far (mb := mb) (x := x) (si := si) (sp := sp) (di := di) (dp := dp) (h := y.toNat) (by omega) (by omega); have word := inM_word (mb := mb) (x := x) (si := si) (sp := sp) (di := di) (dp := dp) (h := y.toNat) (by omega) (by omega); have e0 := far 0 (by omega); have e9 := far 9 (by omega); have eh : ihead (inM mb x y.toNat si sp di dp) = ihead mb := by unfold ihead; rw [e0]
 have w1 : withinS (inM mb x y.toNat si sp di dp) = some y := by
  rw [<- hw]; unfold withinS; rw [hl, e0, e9, eh]
  by_cases c : mb.getD 9 0 = 1
  ·rw [<- he, far y.toNat (.inr ⟨by omega, by rw [if_pos c]; omega⟩), far (y.toNat + 1) (.inr ⟨by omega, by rw [if_pos c]; omega⟩)]
  ·rw [if_neg c, if_neg c]
 refine ⟨w1, ?_⟩; unfold innerS; rw [w1, Option.map_some]; obtain ⟨q1, q2, q3, q4⟩ := inW_words (mb := mb) (si := si) (di := di) (by omega)
 have s1 : g32 (inM mb x y.toNat si sp di dp) 12 = si := by
  show g16 (inM mb x y.toNat si sp di dp) 12 * 65536 + g16 (inM mb x y.toNat si sp di dp) 14 = si
  rw [word 12 (by omega), word 14 (by omega), q1, q2]; unfold U32 at k1
  omega
 have s2 : g32 (inM mb x y.toNat si sp di dp) 16 = di := by
  show g16 (inM mb x y.toNat si sp di dp) 16 * 65536 + g16 (inM mb x y.toNat si sp di dp) 18 = di
  rw [word 16 (by omega), word 18 (by omega), q3, q4]; unfold U32 at k3
  omega
 have hwl : (put2L (putW mb 12 (innW si di)) 10 x).length = mb.length := by rw [innW_put]; simp only [put2L_length]
 have pt : portsS (inM mb x y.toNat si sp di dp) y.toNat = (sp, dp) := by
  unfold portsS; rw [e9]; unfold inM innP; rw [Nat.zero_add, Nat.zero_add, Nat.zero_add]
  by_cases c : mb.getD 9 0 = 1
  ·rw [if_pos c, if_pos c, g16_put2L _ _ _ (by omega) k2, hq c]
  ·rw [if_neg c, if_neg c, g16_put2L _ _ _ (by rw [put2L_length]; omega) k4, g16_far _ _ _ _ (by rw [put2L_length]; omega) (by omega), g16_put2L _ _ _ (by omega) k2]
 rw [s1, s2, pt]
end
theorem ihd_congr (a t pr i fl of_ s d : Int) (o : List Int) {l l' : List Int} (h : l.length = l'.length) (x : Int) : ihd a t pr i fl of_ s d o l x = ihd a t pr i fl of_ s d o l' x := by
 unfold ihd; rw [h]
theorem ick_congr (a t pr i fl of_ s d : Int) (o : List Int) {l l' : List Int} (h : l.length = l'.length) : ick a t pr i fl of_ s d o l = ick a t pr i fl of_ s d o l' := by
 unfold ick; rw [ihd_congr a t pr i fl of_ s d o h]
def Lk (l : List Int) (r : LK) : Prop := ∃ a t i fl of_ s d : Int, ∃ o b : List Int, ip_Parse.f 4000 l = some (a, t, 1, i, fl, of_, s, d, o, b, 0) /\ lookIcmp 4000 a t i fl of_ s d o b = some r
def InnOk (l : List Int) : Prop := ∃ (x : List Int) (hd y : Nat), rewrite_own.f l = some (x, (hd : Int)) /\ rewrite_within.f 4000 (x.drop (hd + 8)) = some ((y : Int), true) /\ 20 <= y /\ hd + 8 + y + 8 <= x.length /\ x.length <= 100000 /\ 20 <= hd
section
variable {a t i fl of_ s d mt mc mr : Int} {o mb : List Int}
def errP (a t i fl of_ s d : Int) (o : List Int) (mt mc mr : Int) (mb : List Int) : List Int := ibytes a t 1 i fl of_ s d o (PureI.ibytes mt mc (msum mt mc mr mb) mr mb)
def errK (a t i fl of_ s d : Int) (o : List Int) (mt mc mr : Int) (mb : List Int) (p q : S65) : LK := ⟨a, t, 1, i, fl, of_, s, d, o, PureI.ibytes mt mc (msum mt mc mr mb) mr mb, .icmp mt mc (msum mt mc mr mb) mr mb, 0, 0, 0, [p, q], 0⟩
theorem errP_length : (errP a t i fl of_ s d o mt mc mr mb).length = 28 + o.length + mb.length := by
 unfold errP; rw [ibytes_length, PureI.ibytes_length]
 omega
theorem err_look (h : IpOk a t i fl of_ s d o) (h1 : U8 mt) (h2 : U8 mc) (hr : U32 mr) (hb : IsB mb) (hl : mb.length <= 2000) (ec : echoB mt mc = false) (er : errB mt = true) {p q : S65} (hi : innerS mb = some (p, q)) : Lk (errP a t i fl of_ s d o mt mc mr mb) (errK a t i fl of_ s d o mt mc mr mb p q) := by
 have hin := inner_eq hb (by omega) 4000 (by omega); rw [hi] at hin
 exact ⟨_, _, _, _, _, _, _, _, _, h.parse u8_1 (PureI.ibytes_isB h1 h2 hb) (by rw [PureI.ibytes_length]; omega) 4000 (Nat.le_refl _), lk_icmp_is h h1 h2 hr hb hl rfl 4000 (Nat.le_refl _) _ _ hin (.inr ⟨ec, er, rfl, rfl⟩)⟩
theorem inner_is (h : IpOk a t i fl of_ s d o) (h1 : U8 mt) (h2 : U8 mc) (hb : IsB mb) (hl : mb.length <= 2000) {y : Int} (hw : withinS mb = some y) {si sp di dp : Int} (k1 : U32 si) (k2 : U16 sp) (k3 : U32 di) (k4 : U16 dp) (hq : mb.getD 9 0 = 1 -> sp = dp) {r : LK} (hr : r.e = 0 /\ r.inn.length = 2) :
  InnOk (errP a t i fl of_ s d o mt mc mr mb) /\ ∃ x, innF 4000 r (errP a t i fl of_ s d o mt mc mr mb) si sp di dp = some (errP a t i fl of_ s d o mt mc mr (inM mb x y.toNat si sp di dp), 0) := by
 obtain ⟨he, h20, h8, h4, hp⟩ := withinS_is hw; have h40 := h.h40; have hm : IsB (PureI.ibytes mt mc (msum mt mc mr mb) mr mb) := PureI.ibytes_isB h1 h2 hb; have hB : IsB (errP a t i fl of_ s d o mt mc mr mb) := h.isB u8_1 hm; have hL := errP_length (a := a) (t := t) (i := i) (fl := fl) (of_ := of_) (s := s) (d := d) (o := o) (mt := mt) (mc := mc) (mr := mr) (mb := mb); have hL8 := PureI.ibytes_length mt mc (msum mt mc mr mb) mr mb; obtain ⟨i1, i2, i3, i4, i5, i6⟩ := iseg_inv hB (h.seg u8_1 (by omega))
 have own : rewrite_own.f (errP a t i fl of_ s d o mt mc mr mb) = some (errP a t i fl of_ s d o mt mc mr mb, 20 + (o.length : Int)) := by
  rw [own_eq hB i2 i4, i5, List.take_of_length_le (by omega)]
 -- the packet's bytes: those ahead, and the packet within
 obtain ⟨C, hC⟩ : ∃ C, C = ihd a t 1 i fl of_ s d o (PureI.ibytes mt mc (msum mt mc mr mb) mr mb) (ick a t 1 i fl of_ s d o (PureI.ibytes mt mc (msum mt mc mr mb) mr mb)) ++ o := ⟨_, rfl⟩
 have hCl : C.length = 20 + o.length := by rw [hC, List.length_append, ihd_length]
 have hB8 : ∀ (m : Int) (l : List Int), PureI.ibytes mt mc m mr l = [mt, mc, m / 256 % 256, m % 256, mr / 16777216 % 256, mr / 65536 % 256, mr / 256 % 256, mr % 256] ++ l := fun _ _ => rfl
 obtain ⟨P, hP⟩ : ∃ P, P = C ++ [mt, mc, msum mt mc mr mb / 256 % 256, msum mt mc mr mb % 256, mr / 16777216 % 256, mr / 65536 % 256, mr / 256 % 256, mr % 256] := ⟨_, rfl⟩
 have hPl : P.length = 28 + o.length := by rw [hP, List.length_append, hCl]; simp only [List.length_cons, List.length_nil]; omega
 have hE : errP a t i fl of_ s d o mt mc mr mb = P ++ mb := by
  unfold errP ibytes; rw [<- hC, hB8, <- List.append_assoc, <- hP]
 have hfin : ∀ l : List Int, l.length = mb.length -> errP a t i fl of_ s d o mt mc mr l = C ++ PureI.ibytes mt mc (msum mt mc mr l) mr l := fun l hl2 => by
  unfold errP ibytes; have e : (PureI.ibytes mt mc (msum mt mc mr l) mr l).length = (PureI.ibytes mt mc (msum mt mc mr mb) mr mb).length := by rw [PureI.ibytes_length, PureI.ibytes_length, hl2]
  rw [ick_congr a t 1 i fl of_ s d o e, ihd_congr a t 1 i fl of_ s d o e, <- hC]
 obtain ⟨q, eq, hqy⟩ := within_eq hb (by omega) 4000 (by omega); obtain rfl := hqy y hw; have ed : (P ++ mb).drop (20 + o.length + 8) = mb := List.drop_left' (by omega)
 have e9 : rd (P ++ mb) ((20 + o.length + 8 + 9 : Nat) : Int) = mb.getD 9 0 := by
  rw [rd_nat _ _ _ rfl, List.getD_eq_getElem?_getD, List.getElem?_append_right (by omega), List.getD_eq_getElem?_getD, show 20 + o.length + 8 + 9 - P.length = 9 from by omega]
 rw [hE] at hB
 have e10 := two_at hB (20 + o.length + 8 + 10) (by rw [List.length_append]; omega); obtain ⟨x, hx, ex⟩ := innL_is 4000 (by omega) (20 + o.length + 8) (innW si di) 0 (g16 (P ++ mb) (20 + o.length + 8 + 10)) (P ++ mb) hB (by rw [List.length_append]; simp only [innW, List.length_cons, List.length_nil]; omega) innW_r (g16_range hB _); rw [putW_app P (innW si di) mb (20 + o.length + 8 + 12 + 2 * 0) 12 (by omega)] at ex
 refine ⟨⟨P ++ mb, 20 + o.length, q.toNat, by rw [own, hE]; rfl, by rw [ed, eq, hw, Int.toNat_of_nonneg (by omega)]; rfl, by omega, by rw [List.length_append]; omega, by rw [List.length_append]; omega, by omega⟩, x, ?_⟩; have hwl : (put2L (putW mb 12 (innW si di)) 10 x).length = mb.length := by rw [innW_put]; simp only [put2L_length]
 have e6 : innP (mb.getD 9 0) (put2L (P ++ putW mb 12 (innW si di)) (20 + o.length + 8 + 10) x) (20 + o.length + 8) q.toNat sp dp = P ++ inM mb x q.toNat si sp di dp := by
  rw [put2L_app P _ _ 10 _ (by omega)]; unfold inM innP
  split
  ·rw [put2L_app P _ _ (0 + (q.toNat + 4)) _ (by omega)]
  ·rw [put2L_app P _ (20 + o.length + 8 + q.toNat) (0 + q.toNat) _ (by omega), put2L_app P _ _ (0 + (q.toNat + 2)) _ (by omega)]
 have hML := inM_length (mb := mb) (x := x) (si := si) (sp := sp) (di := di) (dp := dp) (h := q.toNat); have hMB := inM_isB (mb := mb) (x := x) (si := si) (sp := sp) (di := di) (dp := dp) (h := q.toNat) hb; obtain ⟨M, hM⟩ : ∃ M, M = inM mb x q.toNat si sp di dp := ⟨_, rfl⟩
 rw [<- hM] at e6 hML hMB |-
 have e7 : put2L (P ++ M) (20 + o.length + 2) 0 = C ++ PureI.ibytes mt mc 0 mr M := by
  rw [hP, List.append_assoc, put2L_app C _ _ 2 _ (by omega)]
  rfl
 have e8 : (C ++ PureI.ibytes mt mc 0 mr M).drop (20 + o.length) = PureI.ibytes mt mc 0 mr M := List.drop_left' hCl; have eS := SumEq.of_eq (PureI.ibytes mt mc 0 mr M) (PureI.ibytes_isB h1 h2 hMB) (by rw [PureI.ibytes_length]; omega) 4000 (by rw [PureI.ibytes_length]; omega) (by omega)
 have e9' : put2L (C ++ PureI.ibytes mt mc 0 mr M) (20 + o.length + 2) (ck (PureI.ibytes mt mc 0 mr M)) = C ++ PureI.ibytes mt mc (msum mt mc mr M) mr M := by
  rw [put2L_app C _ _ 2 _ (by omega)]
  rfl
 unfold innF; rw [if_pos hr.1, own, Option.bind_some]
 dsimp only
 rw [if_neg (by omega), hE, show (20 + (o.length : Int)).toNat = 20 + o.length from by omega]; unfold innG; rw [ed, eq, Option.bind_some, e9, if_neg (fun h5 => h5.2 (hq h5.1)), e10, Option.bind_some, ex, Option.bind_some]
 dsimp only
 rw [e6, e7, e8, eS, Option.bind_some, e9', hfin M hML]
end
end Go.Proofs.Ytkmimamminddiaa.Pure
