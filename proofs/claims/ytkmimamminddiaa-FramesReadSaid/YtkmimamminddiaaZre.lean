/- Texts of this claim, merged: PBx41, FrRin, PBx37, PBx38, PBx39, RwBody. -/
import Derived.Test.YtkmimamminddiaaZrb
import Derived.Test.YtkmimamminddiaaZrc
import Derived.Test.YtkmimamminddiaaZrd
import Derived.Deep.Cut
import Derived.Deep.CutRange
import Derived.Deep.CutBlock
import Derived.Deep.WholeRow
import Derived.Lib.SlBytesConst
set_option maxHeartbeats 40000000
set_option maxRecDepth 100000
namespace Go.Proofs.Ytkmimamminddiaa.PB
open Go.RowKit Go.Proofs.YtkmimamminddiaaW.PrintWords Go.Proofs.YtkmimamminddiaaW.PrintLast Go.Proofs.YtkmimamminddiaaW.PrintMore
attribute [local go_sem] max2_int min2_int max_two min_two max_three min_three max_four min_four   -- for this text's walks alone
set_option linter.unusedVariables false
set_option linter.unusedSimpArgs false
mutual
def lychref1_Ip.j0 : Nat → List Int → Int → Int → Bool → Option (Int × Int × Int × Int × Int × Int × Int × Int × List Int × List Int × Int)
 | 0, _, _, _, _ => none
 | k + 1, x0, x4, x5, x33 => if x33 = true then (some (0, 0, 0, 0, 0, 0, 0, 0, ([] : List Int), ([] : List Int), 21)) else (if (x0.length : Int) < x4 then (lychref1_Ip.j1 k x0 x4 x5 true) else (lychref1_Ip.j1 k x0 x4 x5 (decide ((x0.length : Int) < x5))))
def lychref1_Ip.j1 : Nat → List Int → Int → Int → Bool → Option (Int × Int × Int × Int × Int × Int × Int × Int × List Int × List Int × Int)
 | 0, _, _, _, _ => none
 | k + 1, x0, x4, x5, x44 => if x44 = true then (some (0, 0, 0, 0, 0, 0, 0, 0, ([] : List Int), ([] : List Int), 20)) else (if 0 ≤ x4 then (if x4 ≤ (x0.length : Int) then ((lychref1_Add.f k 0 (x0.take (x4 : Int).toNat)).bind fun t562 => ((lychref1_Fold.f k t562).bind fun t563 => (if t563 = 65535 then ((lychref1_Get16.f x0 6).bind fun t564 => (if 1 < (x0.length : Int) then ((lychref1_Get16.f x0 4).bind fun t566 => (if 8 < (x0.length : Int) then (if 9 < (x0.length : Int) then ((lychref1_Get32.f x0 12).bind fun t569 => ((lychref1_Get32.f x0 16).bind fun t570 => ((lychref1_cut.f x0 20 x4).bind fun t571 => ((lychref1_cut.f x0 x4 x5).bind fun t574 => (some (rd x0 1, rd x0 8, rd x0 9, t566, (t564 / 8192) % 256, Go.bits .and .u16 t564 8191, t569, t570, t571, t574, 0)))))) else (none)) else (none))) else (none))) else (some (0, 0, 0, 0, 0, 0, 0, 0, ([] : List Int), ([] : List Int), 22))))) else (none)) else (none))
end
def lychref1_Ip.f (k : Nat) (l0 : List Int) : Option (Int × Int × Int × Int × Int × Int × Int × Int × List Int × List Int × Int) := if (l0.length : Int) < 20 then (some (0, 0, 0, 0, 0, 0, 0, 0, ([] : List Int), ([] : List Int), 20)) else (if 0 < (l0.length : Int) then ((lychref1_Get16.f l0 2).bind fun t559 => (if ((rd l0 0) / 16) = 4 then (if (wrap64 ((wrap64 (Go.bits .and .u8 (rd l0 0) 15)) * 4)) < 20 then (lychref1_Ip.j0 k l0 (wrap64 ((wrap64 (Go.bits .and .u8 (rd l0 0) 15)) * 4)) (wrap64 (t559)) true) else (lychref1_Ip.j0 k l0 (wrap64 ((wrap64 (Go.bits .and .u8 (rd l0 0) 15)) * 4)) (wrap64 (t559)) (decide ((wrap64 (t559)) < (wrap64 ((wrap64 (Go.bits .and .u8 (rd l0 0) 15)) * 4)))))) else (lychref1_Ip.j0 k l0 (wrap64 ((wrap64 (Go.bits .and .u8 (rd l0 0) 15)) * 4)) (wrap64 (t559)) true))) else (none))
def lychref1_Ip.T3 : Bool × List (List Nat × List Nat) := (true, [([], []), ([0], [0]), ([1], [1]), ([2], [2]), ([3], [3]), ([4], [4]), ([], []), ([6], [6]), ([7], [7]), ([5, 7, 0, 1, 2, 3, 4, 5], [5]), ([8, 9, 0, 1, 2, 3, 4, 5, 6, 7, 8, 9], [8])])
def lychref1_Ip.B3 : List Nat := [0, 1, 3, 7, 15, 31, 0, 64, 192, 255, 1023]
theorem lychref1_Ip.tab3 : rtab .any (opsOf Try.f38 3) = lychref1_Ip.T3 := by kernel_rfl
theorem lychref1_Ip.bits3 : waitsOk lychref1_Ip.T3.2 lychref1_Ip.B3 = true := by kernel_rfl
def lychref1_Ip.T11 : Bool × List (List Nat × List Nat) := (true, [([], []), ([0], [0]), ([1], [1]), ([], []), ([3], [3]), ([], []), ([5], [5]), ([6], [6]), ([], []), ([8], [8]), ([], []), ([10], [10]), ([11], [11]), ([], []), ([13], [13]), ([14], [14]), ([], []), ([16, 4], [16]), ([], []), ([18, 17], [18]), ([], []), ([], []), ([20, 21, 19], [20, 21]), ([], []), ([], []), ([], []), ([23, 24, 25, 22], [23, 24, 25]), ([2, 4, 7, 9, 12, 15, 17, 19, 22, 26], [2, 4, 7, 9, 12, 15, 17, 19, 22, 26]), ([27, 26, 0, 1, 2, 3, 4, 5, 6, 7, 8, 9, 10, 11, 12, 13, 14, 15, 16, 17, 18, 19, 20, 21, 22, 23, 24, 25, 26, 27], [27]), ([28, 0, 1, 2, 3, 4, 5, 6, 7, 8, 9, 10, 11, 12, 13, 14, 15, 16, 17, 18, 19, 20, 21, 22, 23, 24, 25, 26, 27, 28], [])])
def lychref1_Ip.B11 : List Nat := [0, 1, 3, 0, 8, 0, 32, 96, 0, 256, 0, 1024, 3072, 0, 8192, 24576, 0, 65560, 0, 458776, 0, 0, 4128792, 0, 0, 0, 67043352, 134217727, 268435455, 536870911]
theorem lychref1_Ip.tab11 : rtab .any (opsOf Try.f38 11) = lychref1_Ip.T11 := by kernel_rfl
theorem lychref1_Ip.bits11 : waitsOk lychref1_Ip.T11.2 lychref1_Ip.B11 = true := by kernel_rfl
theorem lychref1_Ip.calls (k : Nat) (A0 : Option Addr) (c0 : Nat) (l0 : List Int) (r1 : Int) (r2 : Int) (r3 : Int) (r4 : Int) (r5 : Int) (r6 : Int) (r7 : Int) (r8 : Int) (r9 : List Int) (r10 : List Int) (r11 : Int) (w : World) (hr0 : Kd.C (Kd.int .u8) w A0 l0.length l0) (hc0 : l0.length ≤ c0) (h : lychref1_Ip.f k l0 = some (r1, r2, r3, r4, r5, r6, r7, r8, r9, r10, r11)) :
  Calls Try.prog 38 #[.slice A0 l0.length c0] w fun e w' => ∃ v8_ v9_ : Value, e = .returned (.tuple #[.agg #[.int .u8 r1, .int .u8 r2, .int .u8 r3, .int .u16 r4, .int .u8 r5, .int .u16 r6, .int .u32 r7, .int .u32 r8, v8_, v9_], .int .i64 r11]) ∧ Kd.R (Kd.int .u8) 5 w' w.heap.size (fun k_ => some k_ ≠ (v9_ : Value).ownBlock) v8_ r9 ∧ Kd.R (Kd.int .u8) 5 w' w.heap.size (fun k_ => some k_ ≠ (v8_ : Value).ownBlock) v9_ r10 ∧ Below w.heap.size w w' := by
 have hu73 := Try.underlying73
 have HR0 := Aside0.mk hr0
 have HC0 := Aside0.mk hc0
 clear hr0 hc0
 have HB := Aside0.mk (Below.refl w.heap.size w)
 have H : (if (l0.length : Int) < 20 then (some (0, 0, 0, 0, 0, 0, 0, 0, ([] : List Int), ([] : List Int), 20)) else (if 0 < (l0.length : Int) then ((lychref1_Get16.f l0 2).bind fun t559 => (if ((rd l0 0) / 16) = 4 then (if (wrap64 ((wrap64 (Go.bits .and .u8 (rd l0 0) 15)) * 4)) < 20 then (lychref1_Ip.j0 k l0 (wrap64 ((wrap64 (Go.bits .and .u8 (rd l0 0) 15)) * 4)) (wrap64 (t559)) true) else (lychref1_Ip.j0 k l0 (wrap64 ((wrap64 (Go.bits .and .u8 (rd l0 0) 15)) * 4)) (wrap64 (t559)) (decide ((wrap64 (t559)) < (wrap64 ((wrap64 (Go.bits .and .u8 (rd l0 0) 15)) * 4)))))) else (lychref1_Ip.j0 k l0 (wrap64 ((wrap64 (Go.bits .and .u8 (rd l0 0) 15)) * 4)) (wrap64 (t559)) true))) else (none))) = some (r1, r2, r3, r4, r5, r6, r7, r8, r9, r10, r11) := h
 clear h
 by_cases c2 : (l0.length : Int) < 20
 ·rw [if_pos c2] at H
  have c2b0 : decide ((l0.length : Int) < 20) = true := decide_eq_true c2
  have c2b1 : decide (l0.length < 20) = true := decide_eq_true (by omega)
  clear c2
  simp only [Option.some.injEq, Prod.mk.injEq] at H
  obtain ⟨rfl, rfl, rfl, rfl, rfl, rfl, rfl, rfl, rfl, rfl, rfl⟩ := H
  go_enter Try.func38, Try.ntmps38
  go_wp2_with (first | ((with_reducible refine gate_dst (N := 2) rfl ?_); (try (refine gate_guard (by rfl) ?_; dsimp only)); refine box_event ?hg (N := 2) ?hd (cs := #[.int .u8 0, .int .u8 0, .int .u8 0, .int .u16 0, .int .u8 0, .int .u16 0, .int .u32 0, .int .u32 0, .slice none 0 0, .slice none 0 0]) (t := 73) ?hr ?_; (case hd => rfl); (case hg => rfl); (case hr => first | (go_simp; done) | (go_simp; rfl)); intro gb557 hg w3 hbox hb; have n0_ := Aside0.mk (below_step (bz HB) hb); have n1_ := Aside0.mk (hbox); have n2_ := Aside0.mk ((by rw [hg]; exact (below_size (bz HB)) : w.heap.size ≤ gb557)); have n3_ := Aside0.mk ((by rw [hg]; exact (below_size (bz HB)) : w.heap.size ≤ gb557)); clear HB; have HB := n0_; have BK557 := n1_; have GW557 := n2_; have GE557 := n3_; clear n0_ n1_ n2_ n3_; clear hb hbox hg; have hcz4_0 : w3.cell? ⟨gb557, 0, none⟩ = some (.int .u8 0) := cz BK557.out 0 rfl; have hcz4_1 : w3.cell? ⟨gb557, 1, none⟩ = some (.int .u8 0) := cz BK557.out 1 rfl; have hcz4_2 : w3.cell? ⟨gb557, 2, none⟩ = some (.int .u8 0) := cz BK557.out 2 rfl; have hcz4_3 : w3.cell? ⟨gb557, 3, none⟩ = some (.int .u16 0) := cz BK557.out 3 rfl; have hcz4_4 : w3.cell? ⟨gb557, 4, none⟩ = some (.int .u8 0) := cz BK557.out 4 rfl; have hcz4_5 : w3.cell? ⟨gb557, 5, none⟩ = some (.int .u16 0) := cz BK557.out 5 rfl; have hcz4_6 : w3.cell? ⟨gb557, 6, none⟩ = some (.int .u32 0) := cz BK557.out 6 rfl; have hcz4_7 : w3.cell? ⟨gb557, 7, none⟩ = some (.int .u32 0) := cz BK557.out 7 rfl; have hcz4_8 : w3.cell? ⟨gb557, 8, none⟩ = some (.slice none 0 0) := cz BK557.out 8 rfl; have hcz4_9 : w3.cell? ⟨gb557, 9, none⟩ = some (.slice none 0 0) := cz BK557.out 9 rfl; have hfz4_0 := blk_frozen BK557.out 0; have hfz4_1 := blk_frozen BK557.out 1; have hfz4_2 := blk_frozen BK557.out 2; have hfz4_3 := blk_frozen BK557.out 3; have hfz4_4 := blk_frozen BK557.out 4; have hfz4_5 := blk_frozen BK557.out 5; have hfz4_6 := blk_frozen BK557.out 6; have hfz4_7 := blk_frozen BK557.out 7; have hfz4_8 := blk_frozen BK557.out 8; have hfz4_9 := blk_frozen BK557.out 9))
  refine bodyPost_ret (results_ct rfl _ _ gb557 73 #[.int .u8 0, .int .u8 0, .int .u8 0, .int .u16 0, .int .u8 0, .int .u16 0, .int .u32 0, .int .u32 0, .slice none 0 0, .slice none 0 0] (0, 0) _ rfl (by (repeat (first | with_reducible refine blk_drewN ?_ _ | with_reducible refine blk_drew ?_ | with_reducible refine blk_alloc ?_ _ | refine blk_put (cs := #[.int .u8 0, .int .u8 0, .int .u8 0, .int .u16 0, .int .u8 0, .int .u16 0, .int .u32 0, .int .u32 0, .slice none 0 0, .slice none 0 0]) ?_ _ _ rfl)); (with_reducible repeat (first | refine blk_drewN ?_ _ | refine blk_drew ?_ | refine blk_alloc ?_ _)); exact BK557.out) Try.underlying73 rfl (by kernel_rfl)) rfl ?_
  exact ⟨_, _, by first | rfl | (simp [errW_none, errW_some] <;> rfl) | (simp [*, errW_none, errW_some] <;> rfl), by first | exact Kd.R_nil _ _ _ _ _ | exact Kd.N_nil _ _ _ _ _ | exact Kd.V_nil _ _ _ _ _ | exact Kd.Q_nil _ _ _ _ _ | exact Kd.S_nil _ _ _ _ _, by first | exact Kd.R_nil _ _ _ _ _ | exact Kd.N_nil _ _ _ _ _ | exact Kd.V_nil _ _ _ _ _ | exact Kd.Q_nil _ _ _ _ _ | exact Kd.S_nil _ _ _ _ _, bz HB⟩
 ·rw [if_neg c2] at H
  have c2b0 : decide ((l0.length : Int) < 20) = false := decide_eq_false c2
  have c2b1 : decide (l0.length < 20) = false := decide_eq_false (by omega)
  clear c2
  by_cases c5 : 0 < (l0.length : Int)
  ·rw [if_pos c5] at H
   have c5b0 : decide (0 < (l0.length : Int)) = true := decide_eq_true c5
   have c5b1 : decide (0 < l0.length) = true := decide_eq_true (by omega)
   clear c5
   replace H := Option.bind_eq_some_iff.mp H
   obtain ⟨t559, A60, H⟩ := H
   replace H : (if ((rd l0 0) / 16) = 4 then (if (wrap64 ((wrap64 (Go.bits .and .u8 (rd l0 0) 15)) * 4)) < 20 then (lychref1_Ip.j0 k l0 (wrap64 ((wrap64 (Go.bits .and .u8 (rd l0 0) 15)) * 4)) (wrap64 (t559)) true) else (lychref1_Ip.j0 k l0 (wrap64 ((wrap64 (Go.bits .and .u8 (rd l0 0) 15)) * 4)) (wrap64 (t559)) (decide ((wrap64 (t559)) < (wrap64 ((wrap64 (Go.bits .and .u8 (rd l0 0) 15)) * 4)))))) else (lychref1_Ip.j0 k l0 (wrap64 ((wrap64 (Go.bits .and .u8 (rd l0 0) 15)) * 4)) (wrap64 (t559)) true)) = some (r1, r2, r3, r4, r5, r6, r7, r8, r9, r10, r11) := H
   have A6 := Aside0.mk A60
   clear A60
   have HC7 := Aside0.mk H
   clear H
   go_enter Try.func38, Try.ntmps38
   try go_wp2_with (first | ((with_reducible refine gate_dst (N := 2) rfl ?_); (try (refine gate_guard (by rfl) ?_; dsimp only)); refine box_event ?hg (N := 2) ?hd (cs := #[.int .u8 0, .int .u8 0, .int .u8 0, .int .u16 0, .int .u8 0, .int .u16 0, .int .u32 0, .int .u32 0, .slice none 0 0, .slice none 0 0]) (t := 73) ?hr ?_; (case hd => rfl); (case hg => rfl); (case hr => first | (go_simp; done) | (go_simp; rfl)); intro gb557 hg w8 hbox hb; have n0_ := Aside0.mk (below_step (bz HB) hb); have n1_ := Aside0.mk (hbox); have n2_ := Aside0.mk ((by rw [hg]; exact (below_size (bz HB)) : w.heap.size ≤ gb557)); have n3_ := Aside0.mk ((by rw [hg]; exact (below_size (bz HB)) : w.heap.size ≤ gb557)); clear HB; have HB := n0_; have BK557 := n1_; have GW557 := n2_; have GE557 := n3_; clear n0_ n1_ n2_ n3_; clear hb hbox hg))
   have n0_ := Aside0.mk (blk_drew BK557.out)
   have n1_ := Aside0.mk (below_drew1 HB.out)
   clear BK557
   clear HB
   have BK557 := n0_
   have HB := n1_
   clear n0_ n1_
   have p558 : 0 ≤ (0 : Int) := (by omega)
   have q558 : 0 < (l0.length : Int) := of_decide_eq_true (by first | (with_reducible assumption) | assumption)
   obtain ⟨ad558, e558, hx558_0⟩ := Kd.at_int HR0.out 0 p558 q558
   have hw558_0 := hx558_0
   (try rw [show ((0 : Int)).toNat = 0 from rfl] at hw558_0)
   (try rw [show 0 * 1 = 0 from rfl] at hw558_0)
   (try rw [Addr.add_zero'] at hw558_0)
   cases e558
   have qi558 : (0 < l0.length) = True := eq_true (by omega)
   (try rw [show ((0 : Int)).toNat = 0 from rfl] at hx558_0)
   (try rw [Addr.add_zero'] at hx558_0)
   replace hx558_0 := (HB.out.cell (World.block_lt_of_cell? w _ hx558_0)).trans hx558_0
   replace p558 := eq_true p558
   replace q558 := eq_true q558
   refine start_ (n := 11) (S := fun w' => w'.cell? ad558 = some (.int .u8 (rd l0 0))) (ds := []) #[false, false, false, false, false, false, false, false, false, false, false] (by kernel_rfl) rfl rfl (((HB.out.cell (World.block_lt_of_cell? w _ hw558_0)).trans hw558_0)) (fun hHeld => ?_); refine with_tabW lychref1_Ip.tab3 lychref1_Ip.bits3 (fun HT_ HW_ => ?_)
   generalize w8.drew = w9 at BK557 HB hx558_0 hHeld ⊢
   refine pz 0 11 HT_ ?_
   refine pz 1 12 HT_ ?_
   refine pz 6 17 HT_ ?_
   refine tz 2 13 HT_ HW_ hHeld ?_
   refine pz 3 14 HT_ ?_
   refine pz 4 15 HT_ ?_
   refine pz 5 16 HT_ ?_
   refine oz 7 (some 18) HT_ (fun K hK => ?_)
   refine gG Try.func64 #[.slice (some ad558) l0.length c0, .int .i64 2] ?_
   with_reducible refine (lychref1_Get16.calls _ _ l0 2 t559 _ ?side1 ?side2 A6.out).mono ?_
   (case side1 => exact Kd.C_below HR0.out (bz HB))
   (case side2 => exact HC0.out)
   rintro e w' ⟨rfl, ⟨nd, rfl⟩⟩
   refine ⟨_, rfl, ?_⟩
   refine hK.out _ _ (((HB.out.cell (World.block_lt_of_cell? w _ hw558_0)).trans hw558_0)) (fun hHeld => ?_)
   clear hK K
   refine nz 18 ?_
   refine pz 8 19 HT_ ?_
   refine pz 9 4 HT_ ?_
   refine pz 10 5 HT_ ?_
   refine dz HT_ ?_
   go_upto_region 4 with (fail)
   go_cut [33] (fun v33 wc => ∃ (kq : Nat) (x33_6 : Bool), v33 = .bool x33_6 ∧ Aside0 (lychref1_Ip.j0 kq l0 (wrap64 ((wrap64 (Go.bits .and .u8 (rd l0 0) 15)) * 4)) (wrap64 (t559)) x33_6 = some (r1, r2, r3, r4, r5, r6, r7, r8, r9, r10, r11)) ∧ Aside0 (kq ≤ k) ∧ Aside0 (wc.heap[gb557]? = some (.cells #[.int .u8 0, .int .u8 0, .int .u8 0, .int .u16 0, .int .u8 0, .int .u16 0, .int .u32 0, .int .u32 0, (.slice none 0 0), (.slice none 0 0)] 73 (0, 0))) ∧ Aside0 (Below w.heap.size w wc))
   case first =>
    have H := HC7.out
    clear HC7
    by_cases c10 : ((rd l0 0) / 16) = 4
    ·rw [if_pos c10] at H
     have c10b0 : (((rd l0 0) / 16) == 4) = true := beq_iff_eq.mpr c10
     have c10b1 : (((rd l0 0) / 16) != 4) = false := bne_eq_false_iff_eq.mpr c10
     clear c10
     (first | rw [c10b0] | (simp only [i64_w, i32_w]; rw [c10b0]) | skip)
     by_cases c11 : (wrap64 ((wrap64 (Go.bits .and .u8 (rd l0 0) 15)) * 4)) < 20
     ·rw [if_pos c11] at H
      have c11b0 : decide ((wrap64 ((wrap64 (Go.bits .and .u8 (rd l0 0) 15)) * 4)) < 20) = true := decide_eq_true c11
      clear c11
      have H' := Aside0.mk H
      clear H
      have p560 : 0 ≤ (0 : Int) := (by omega)
      have q560 : 0 < (l0.length : Int) := of_decide_eq_true (by first | (with_reducible assumption) | assumption)
      obtain ⟨ad560, e560, hx560_0⟩ := Kd.at_int HR0.out 0 p560 q560
      obtain rfl : ad558 = ad560 := (by injection e560)
      have qi560 : (0 < l0.length) = True := eq_true (by omega)
      (try rw [show ((0 : Int)).toNat = 0 from rfl] at hx560_0)
      (try rw [Addr.add_zero'] at hx560_0)
      replace hx560_0 := (HB.out.cell (World.block_lt_of_cell? w _ hx560_0)).trans hx560_0
      replace p560 := eq_true p560
      replace q560 := eq_true q560
      go_wp2
      go_meet
      case rel => exact ⟨_, (true), (by first | rfl | (simp; done) | (simp [*]; done)), H', ⟨by first | omega | exact Nat.le_refl _⟩, ⟨kz BK557⟩, ⟨bz HB⟩⟩
     ·rw [if_neg c11] at H
      have c11b0 : decide ((wrap64 ((wrap64 (Go.bits .and .u8 (rd l0 0) 15)) * 4)) < 20) = false := decide_eq_false c11
      clear c11
      have H' := Aside0.mk H
      clear H
      have p560 : 0 ≤ (0 : Int) := (by omega)
      have q560 : 0 < (l0.length : Int) := of_decide_eq_true (by first | (with_reducible assumption) | assumption)
      obtain ⟨ad560, e560, hx560_0⟩ := Kd.at_int HR0.out 0 p560 q560
      obtain rfl : ad558 = ad560 := (by injection e560)
      have qi560 : (0 < l0.length) = True := eq_true (by omega)
      (try rw [show ((0 : Int)).toNat = 0 from rfl] at hx560_0)
      (try rw [Addr.add_zero'] at hx560_0)
      replace hx560_0 := (HB.out.cell (World.block_lt_of_cell? w _ hx560_0)).trans hx560_0
      replace p560 := eq_true p560
      replace q560 := eq_true q560
      go_wp2
      go_meet
      case rel => exact ⟨_, (decide ((wrap64 (t559)) < (wrap64 ((wrap64 (Go.bits .and .u8 (rd l0 0) 15)) * 4)))), (by first | rfl | (simp; done) | (simp [*]; done)), H', ⟨by first | omega | exact Nat.le_refl _⟩, ⟨kz BK557⟩, ⟨bz HB⟩⟩
    ·rw [if_neg c10] at H
     have c10b0 : (((rd l0 0) / 16) == 4) = false := beq_eq_false_iff_ne.mpr c10
     have c10b1 : (((rd l0 0) / 16) != 4) = true := bne_iff_ne.mpr c10
     (first | rw [c10b0] | (simp only [i64_w, i32_w]; rw [c10b0]) | skip)
     have H' := Aside0.mk H
     clear H
     have p560 : 0 ≤ (0 : Int) := (by omega)
     have q560 : 0 < (l0.length : Int) := of_decide_eq_true (by first | (with_reducible assumption) | assumption)
     obtain ⟨ad560, e560, hx560_0⟩ := Kd.at_int HR0.out 0 p560 q560
     obtain rfl : ad558 = ad560 := (by injection e560)
     have qi560 : (0 < l0.length) = True := eq_true (by omega)
     (try rw [show ((0 : Int)).toNat = 0 from rfl] at hx560_0)
     (try rw [Addr.add_zero'] at hx560_0)
     replace hx560_0 := (HB.out.cell (World.block_lt_of_cell? w _ hx560_0)).trans hx560_0
     replace p560 := eq_true p560
     replace q560 := eq_true q560
     go_wp2
     go_meet
     case rel => exact ⟨_, (true), (by first | rfl | (simp; done) | (simp [*]; done)), H', ⟨by first | omega | exact Nat.le_refl _⟩, ⟨kz BK557⟩, ⟨bz HB⟩⟩
   case rest =>
    clear HC7
    try clear c2
    try clear c2b0
    try clear c2b1
    try clear c5
    try clear c5b0
    try clear c5b1
    try clear hx558_0
    try clear p558
    try clear q558
    obtain ⟨kq, x33_6, rfl, HA, HJ6, BK557, HB⟩ := hcut
    cases kq with
    | zero => exact absurd HA.out (by simp [lychref1_Ip.j0])
    | succ kj6 =>
     have H := HA.out
     clear HA
     simp only [lychref1_Ip.j0] at H
     by_cases c12 : x33_6 = true
     ·subst c12
      have H1 : (some (0, 0, 0, 0, 0, 0, 0, 0, ([] : List Int), ([] : List Int), 21)) = some (r1, r2, r3, r4, r5, r6, r7, r8, r9, r10, r11) := by rw [if_pos rfl] at H; exact H
      clear H
      have H := H1
      clear H1
      simp only [Option.some.injEq, Prod.mk.injEq] at H
      obtain ⟨rfl, rfl, rfl, rfl, rfl, rfl, rfl, rfl, rfl, rfl, rfl⟩ := H
      have hcz13_0_ := cs10 BK557.out
      have hfz13_0_ := blk_frozen BK557.out
      go_wp2
      refine bodyPost_ret (results_ct rfl _ _ gb557 73 #[.int .u8 0, .int .u8 0, .int .u8 0, .int .u16 0, .int .u8 0, .int .u16 0, .int .u32 0, .int .u32 0, .slice none 0 0, .slice none 0 0] (0, 0) _ rfl (by (repeat (first | with_reducible refine blk_drewN ?_ _ | with_reducible refine blk_drew ?_ | with_reducible refine blk_alloc ?_ _ | refine blk_put (cs := #[.int .u8 0, .int .u8 0, .int .u8 0, .int .u16 0, .int .u8 0, .int .u16 0, .int .u32 0, .int .u32 0, .slice none 0 0, .slice none 0 0]) ?_ _ _ rfl)); (with_reducible repeat (first | refine blk_drewN ?_ _ | refine blk_drew ?_ | refine blk_alloc ?_ _)); exact BK557.out) Try.underlying73 rfl (by kernel_rfl)) rfl ?_
      exact ⟨_, _, by first | rfl | (simp [errW_none, errW_some] <;> rfl) | (simp [*, errW_none, errW_some] <;> rfl), by first | exact Kd.R_nil _ _ _ _ _ | exact Kd.N_nil _ _ _ _ _ | exact Kd.V_nil _ _ _ _ _ | exact Kd.Q_nil _ _ _ _ _ | exact Kd.S_nil _ _ _ _ _, by first | exact Kd.R_nil _ _ _ _ _ | exact Kd.N_nil _ _ _ _ _ | exact Kd.V_nil _ _ _ _ _ | exact Kd.Q_nil _ _ _ _ _ | exact Kd.S_nil _ _ _ _ _, bz HB⟩
     ·replace c12 := Bool.eq_false_iff.mpr c12
      subst c12
      have H1 : (if (l0.length : Int) < (wrap64 ((wrap64 (Go.bits .and .u8 (rd l0 0) 15)) * 4)) then (lychref1_Ip.j1 kj6 l0 (wrap64 ((wrap64 (Go.bits .and .u8 (rd l0 0) 15)) * 4)) (wrap64 (t559)) true) else (lychref1_Ip.j1 kj6 l0 (wrap64 ((wrap64 (Go.bits .and .u8 (rd l0 0) 15)) * 4)) (wrap64 (t559)) (decide ((l0.length : Int) < (wrap64 (t559)))))) = some (r1, r2, r3, r4, r5, r6, r7, r8, r9, r10, r11) := by rw [if_neg (show ¬ (false = true) by decide)] at H; exact H
      clear H
      have H := H1
      clear H1
      have HC14 := Aside0.mk H
      clear H
      go_upto_region 6 with (fail)
      go_cut [44] (fun v44 wc => ∃ (kq : Nat) (x44_13 : Bool), v44 = .bool x44_13 ∧ Aside0 (lychref1_Ip.j1 kq l0 (wrap64 ((wrap64 (Go.bits .and .u8 (rd l0 0) 15)) * 4)) (wrap64 (t559)) x44_13 = some (r1, r2, r3, r4, r5, r6, r7, r8, r9, r10, r11)) ∧ Aside0 (kq ≤ kj6) ∧ Aside0 (wc.heap[gb557]? = some (.cells #[.int .u8 0, .int .u8 0, .int .u8 0, .int .u16 0, .int .u8 0, .int .u16 0, .int .u32 0, .int .u32 0, (.slice none 0 0), (.slice none 0 0)] 73 (0, 0))) ∧ Aside0 (Below w.heap.size w wc))
      case first =>
       have H := HC14.out
       clear HC14
       by_cases c15 : (l0.length : Int) < (wrap64 ((wrap64 (Go.bits .and .u8 (rd l0 0) 15)) * 4))
       ·rw [if_pos c15] at H
        have c15b0 : decide ((l0.length : Int) < (wrap64 ((wrap64 (Go.bits .and .u8 (rd l0 0) 15)) * 4))) = true := decide_eq_true c15
        clear c15
        (first | rw [c15b0] | (simp only [i64_w, i32_w]; rw [c15b0]) | skip)
        have H' := Aside0.mk H
        clear H
        go_wp2
        go_meet
        case rel => exact ⟨_, (true), (by first | rfl | (simp; done) | (simp [*]; done)), H', ⟨by have := HJ6.out; first | omega | exact Nat.le_refl _⟩, ⟨kz BK557⟩, ⟨bz HB⟩⟩
       ·rw [if_neg c15] at H
        have c15b0 : decide ((l0.length : Int) < (wrap64 ((wrap64 (Go.bits .and .u8 (rd l0 0) 15)) * 4))) = false := decide_eq_false c15
        clear c15
        (first | rw [c15b0] | (simp only [i64_w, i32_w]; rw [c15b0]) | skip)
        have H' := Aside0.mk H
        clear H
        go_wp2
        go_meet
        case rel => exact ⟨_, (decide ((l0.length : Int) < (wrap64 (t559)))), (by first | rfl | (simp; done) | (simp [*]; done)), H', ⟨by have := HJ6.out; first | omega | exact Nat.le_refl _⟩, ⟨kz BK557⟩, ⟨bz HB⟩⟩
      case rest =>
       clear HC14
       try clear c2
       try clear c2b0
       try clear c2b1
       try clear c5
       try clear c5b0
       try clear c5b1
       try clear c12
       try clear hx558_0
       try clear p558
       try clear q558
       obtain ⟨kq, x44_13, rfl, HA, HJ13, BK557, HB⟩ := hcut
       cases kq with
       | zero => exact absurd HA.out (by simp [lychref1_Ip.j1])
       | succ kj13 =>
        have H := HA.out
        clear HA
        simp only [lychref1_Ip.j1] at H
        by_cases c16 : x44_13 = true
        ·subst c16
         have H1 : (some (0, 0, 0, 0, 0, 0, 0, 0, ([] : List Int), ([] : List Int), 20)) = some (r1, r2, r3, r4, r5, r6, r7, r8, r9, r10, r11) := by rw [if_pos rfl] at H; exact H
         clear H
         have H := H1
         clear H1
         simp only [Option.some.injEq, Prod.mk.injEq] at H
         obtain ⟨rfl, rfl, rfl, rfl, rfl, rfl, rfl, rfl, rfl, rfl, rfl⟩ := H
         have hcz17_0_ := cs10 BK557.out
         have hfz17_0_ := blk_frozen BK557.out
         go_wp2
         refine bodyPost_ret (results_ct rfl _ _ gb557 73 #[.int .u8 0, .int .u8 0, .int .u8 0, .int .u16 0, .int .u8 0, .int .u16 0, .int .u32 0, .int .u32 0, .slice none 0 0, .slice none 0 0] (0, 0) _ rfl (by (repeat (first | with_reducible refine blk_drewN ?_ _ | with_reducible refine blk_drew ?_ | with_reducible refine blk_alloc ?_ _ | refine blk_put (cs := #[.int .u8 0, .int .u8 0, .int .u8 0, .int .u16 0, .int .u8 0, .int .u16 0, .int .u32 0, .int .u32 0, .slice none 0 0, .slice none 0 0]) ?_ _ _ rfl)); (with_reducible repeat (first | refine blk_drewN ?_ _ | refine blk_drew ?_ | refine blk_alloc ?_ _)); exact BK557.out) Try.underlying73 rfl (by kernel_rfl)) rfl ?_
         exact ⟨_, _, by first | rfl | (simp [errW_none, errW_some] <;> rfl) | (simp [*, errW_none, errW_some] <;> rfl), by first | exact Kd.R_nil _ _ _ _ _ | exact Kd.N_nil _ _ _ _ _ | exact Kd.V_nil _ _ _ _ _ | exact Kd.Q_nil _ _ _ _ _ | exact Kd.S_nil _ _ _ _ _, by first | exact Kd.R_nil _ _ _ _ _ | exact Kd.N_nil _ _ _ _ _ | exact Kd.V_nil _ _ _ _ _ | exact Kd.Q_nil _ _ _ _ _ | exact Kd.S_nil _ _ _ _ _, bz HB⟩
        ·replace c16 := Bool.eq_false_iff.mpr c16
         subst c16
         have H1 : (if 0 ≤ (wrap64 ((wrap64 (Go.bits .and .u8 (rd l0 0) 15)) * 4)) then (if (wrap64 ((wrap64 (Go.bits .and .u8 (rd l0 0) 15)) * 4)) ≤ (l0.length : Int) then ((lychref1_Add.f kj13 0 (l0.take ((wrap64 ((wrap64 (Go.bits .and .u8 (rd l0 0) 15)) * 4)) : Int).toNat)).bind fun t562 => ((lychref1_Fold.f kj13 t562).bind fun t563 => (if t563 = 65535 then ((lychref1_Get16.f l0 6).bind fun t564 => (if 1 < (l0.length : Int) then ((lychref1_Get16.f l0 4).bind fun t566 => (if 8 < (l0.length : Int) then (if 9 < (l0.length : Int) then ((lychref1_Get32.f l0 12).bind fun t569 => ((lychref1_Get32.f l0 16).bind fun t570 => ((lychref1_cut.f l0 20 (wrap64 ((wrap64 (Go.bits .and .u8 (rd l0 0) 15)) * 4))).bind fun t571 => ((lychref1_cut.f l0 (wrap64 ((wrap64 (Go.bits .and .u8 (rd l0 0) 15)) * 4)) (wrap64 (t559))).bind fun t574 => (some (rd l0 1, rd l0 8, rd l0 9, t566, (t564 / 8192) % 256, Go.bits .and .u16 t564 8191, t569, t570, t571, t574, 0)))))) else (none)) else (none))) else (none))) else (some (0, 0, 0, 0, 0, 0, 0, 0, ([] : List Int), ([] : List Int), 22))))) else (none)) else (none)) = some (r1, r2, r3, r4, r5, r6, r7, r8, r9, r10, r11) := by rw [if_neg (show ¬ (false = true) by decide)] at H; exact H
         clear H
         have H := H1
         clear H1
         obtain ⟨ji18, hji18⟩ : ∃ j_ : Int, (wrap64 ((wrap64 (Go.bits .and .u8 (rd l0 0) 15)) * 4)) = j_ := ⟨_, rfl⟩
         replace H : (if 0 ≤ (ji18) then (if (ji18) ≤ (l0.length : Int) then ((lychref1_Add.f kj13 0 (l0.take ((ji18) : Int).toNat)).bind fun t562 => ((lychref1_Fold.f kj13 t562).bind fun t563 => (if t563 = 65535 then ((lychref1_Get16.f l0 6).bind fun t564 => (if 1 < (l0.length : Int) then ((lychref1_Get16.f l0 4).bind fun t566 => (if 8 < (l0.length : Int) then (if 9 < (l0.length : Int) then ((lychref1_Get32.f l0 12).bind fun t569 => ((lychref1_Get32.f l0 16).bind fun t570 => ((lychref1_cut.f l0 20 (ji18)).bind fun t571 => ((lychref1_cut.f l0 (ji18) (wrap64 (t559))).bind fun t574 => (some (rd l0 1, rd l0 8, rd l0 9, t566, (t564 / 8192) % 256, Go.bits .and .u16 t564 8191, t569, t570, t571, t574, 0)))))) else (none)) else (none))) else (none))) else (some (0, 0, 0, 0, 0, 0, 0, 0, ([] : List Int), ([] : List Int), 22))))) else (none)) else (none)) = some (r1, r2, r3, r4, r5, r6, r7, r8, r9, r10, r11) := by first | (rw [hji18] at H; exact H) | (simp only [hji18] at H ⊢; exact H)
         have hji18w : (IntKind.i64.wrap ((wrap64 (Go.bits .and .u8 (rd l0 0) 15)) * 4)) = ji18 := (i64_w _).trans hji18
         by_cases c19 : 0 ≤ (ji18)
         ·rw [if_pos c19] at H
          have c19b0 := eq_true c19
          have c19b1 : decide (0 ≤ (ji18)) = true := decide_eq_true c19
          clear c19
          by_cases c20 : (ji18) ≤ (l0.length : Int)
          ·rw [if_pos c20] at H
           have c20b0 := eq_true c20
           have c20b1 : decide ((ji18) ≤ (l0.length : Int)) = true := decide_eq_true c20
           clear c20
           replace H := Option.bind_eq_some_iff.mp H
           obtain ⟨t562, A210, H⟩ := H
           replace H : ((lychref1_Fold.f kj13 t562).bind fun t563 => (if t563 = 65535 then ((lychref1_Get16.f l0 6).bind fun t564 => (if 1 < (l0.length : Int) then ((lychref1_Get16.f l0 4).bind fun t566 => (if 8 < (l0.length : Int) then (if 9 < (l0.length : Int) then ((lychref1_Get32.f l0 12).bind fun t569 => ((lychref1_Get32.f l0 16).bind fun t570 => ((lychref1_cut.f l0 20 (ji18)).bind fun t571 => ((lychref1_cut.f l0 (ji18) (wrap64 (t559))).bind fun t574 => (some (rd l0 1, rd l0 8, rd l0 9, t566, (t564 / 8192) % 256, Go.bits .and .u16 t564 8191, t569, t570, t571, t574, 0)))))) else (none)) else (none))) else (none))) else (some (0, 0, 0, 0, 0, 0, 0, 0, ([] : List Int), ([] : List Int), 22)))) = some (r1, r2, r3, r4, r5, r6, r7, r8, r9, r10, r11) := H
           have A21 := Aside0.mk A210
           clear A210
           replace H := Option.bind_eq_some_iff.mp H
           obtain ⟨t563, A220, H⟩ := H
           replace H : (if t563 = 65535 then ((lychref1_Get16.f l0 6).bind fun t564 => (if 1 < (l0.length : Int) then ((lychref1_Get16.f l0 4).bind fun t566 => (if 8 < (l0.length : Int) then (if 9 < (l0.length : Int) then ((lychref1_Get32.f l0 12).bind fun t569 => ((lychref1_Get32.f l0 16).bind fun t570 => ((lychref1_cut.f l0 20 (ji18)).bind fun t571 => ((lychref1_cut.f l0 (ji18) (wrap64 (t559))).bind fun t574 => (some (rd l0 1, rd l0 8, rd l0 9, t566, (t564 / 8192) % 256, Go.bits .and .u16 t564 8191, t569, t570, t571, t574, 0)))))) else (none)) else (none))) else (none))) else (some (0, 0, 0, 0, 0, 0, 0, 0, ([] : List Int), ([] : List Int), 22))) = some (r1, r2, r3, r4, r5, r6, r7, r8, r9, r10, r11) := H
           have A22 := Aside0.mk A220
           clear A220
           by_cases c23 : t563 = 65535
           ·rw [if_pos c23] at H
            have c23b0 : (t563 == 65535) = true := beq_iff_eq.mpr c23
            have c23b1 : (t563 != 65535) = false := bne_eq_false_iff_eq.mpr c23
            clear c23
            replace H := Option.bind_eq_some_iff.mp H
            obtain ⟨t564, A240, H⟩ := H
            replace H : (if 1 < (l0.length : Int) then ((lychref1_Get16.f l0 4).bind fun t566 => (if 8 < (l0.length : Int) then (if 9 < (l0.length : Int) then ((lychref1_Get32.f l0 12).bind fun t569 => ((lychref1_Get32.f l0 16).bind fun t570 => ((lychref1_cut.f l0 20 (ji18)).bind fun t571 => ((lychref1_cut.f l0 (ji18) (wrap64 (t559))).bind fun t574 => (some (rd l0 1, rd l0 8, rd l0 9, t566, (t564 / 8192) % 256, Go.bits .and .u16 t564 8191, t569, t570, t571, t574, 0)))))) else (none)) else (none))) else (none)) = some (r1, r2, r3, r4, r5, r6, r7, r8, r9, r10, r11) := H
            have A24 := Aside0.mk A240
            clear A240
            by_cases c25 : 1 < (l0.length : Int)
            ·rw [if_pos c25] at H
             have c25b0 : decide (1 < (l0.length : Int)) = true := decide_eq_true c25
             have c25b1 : decide (1 < l0.length) = true := decide_eq_true (by omega)
             clear c25
             replace H := Option.bind_eq_some_iff.mp H
             obtain ⟨t566, A260, H⟩ := H
             replace H : (if 8 < (l0.length : Int) then (if 9 < (l0.length : Int) then ((lychref1_Get32.f l0 12).bind fun t569 => ((lychref1_Get32.f l0 16).bind fun t570 => ((lychref1_cut.f l0 20 (ji18)).bind fun t571 => ((lychref1_cut.f l0 (ji18) (wrap64 (t559))).bind fun t574 => (some (rd l0 1, rd l0 8, rd l0 9, t566, (t564 / 8192) % 256, Go.bits .and .u16 t564 8191, t569, t570, t571, t574, 0)))))) else (none)) else (none)) = some (r1, r2, r3, r4, r5, r6, r7, r8, r9, r10, r11) := H
             have A26 := Aside0.mk A260
             clear A260
             by_cases c27 : 8 < (l0.length : Int)
             ·rw [if_pos c27] at H
              have c27b0 : decide (8 < (l0.length : Int)) = true := decide_eq_true c27
              have c27b1 : decide (8 < l0.length) = true := decide_eq_true (by omega)
              clear c27
              by_cases c28 : 9 < (l0.length : Int)
              ·rw [if_pos c28] at H
               have c28b0 : decide (9 < (l0.length : Int)) = true := decide_eq_true c28
               have c28b1 : decide (9 < l0.length) = true := decide_eq_true (by omega)
               clear c28
               replace H := Option.bind_eq_some_iff.mp H
               obtain ⟨t569, A290, H⟩ := H
               replace H : ((lychref1_Get32.f l0 16).bind fun t570 => ((lychref1_cut.f l0 20 (ji18)).bind fun t571 => ((lychref1_cut.f l0 (ji18) (wrap64 (t559))).bind fun t574 => (some (rd l0 1, rd l0 8, rd l0 9, t566, (t564 / 8192) % 256, Go.bits .and .u16 t564 8191, t569, t570, t571, t574, 0))))) = some (r1, r2, r3, r4, r5, r6, r7, r8, r9, r10, r11) := H
               have A29 := Aside0.mk A290
               clear A290
               replace H := Option.bind_eq_some_iff.mp H
               obtain ⟨t570, A300, H⟩ := H
               replace H : ((lychref1_cut.f l0 20 (ji18)).bind fun t571 => ((lychref1_cut.f l0 (ji18) (wrap64 (t559))).bind fun t574 => (some (rd l0 1, rd l0 8, rd l0 9, t566, (t564 / 8192) % 256, Go.bits .and .u16 t564 8191, t569, t570, t571, t574, 0)))) = some (r1, r2, r3, r4, r5, r6, r7, r8, r9, r10, r11) := H
               have A30 := Aside0.mk A300
               clear A300
               replace H := Option.bind_eq_some_iff.mp H
               obtain ⟨t571, A310, H⟩ := H
               replace H : ((lychref1_cut.f l0 (ji18) (wrap64 (t559))).bind fun t574 => (some (rd l0 1, rd l0 8, rd l0 9, t566, (t564 / 8192) % 256, Go.bits .and .u16 t564 8191, t569, t570, t571, t574, 0))) = some (r1, r2, r3, r4, r5, r6, r7, r8, r9, r10, r11) := H
               have A31 := Aside0.mk A310
               clear A310
               replace H := Option.bind_eq_some_iff.mp H
               obtain ⟨t574, A320, H⟩ := H
               replace H : (some (rd l0 1, rd l0 8, rd l0 9, t566, (t564 / 8192) % 256, Go.bits .and .u16 t564 8191, t569, t570, t571, t574, 0)) = some (r1, r2, r3, r4, r5, r6, r7, r8, r9, r10, r11) := H
               have A32 := Aside0.mk A320
               clear A320
               simp only [Option.some.injEq, Prod.mk.injEq] at H
               obtain ⟨rfl, rfl, rfl, rfl, rfl, rfl, rfl, rfl, rfl, rfl, rfl⟩ := H
               obtain ⟨i033, hi033, _, hsz33, _⟩ := info_parts info5
               obtain ⟨hcut33, hA33, hC33⟩ := print_take_of (P := Try.prog) (Value.int .u8) 0 23 5 .i64 Try.underlying23 hi033 hsz33 (some ad558) c0 l0 (ji18) (of_decide_eq_true (by first | (with_reducible assumption) | assumption)) (of_decide_eq_true (by first | (with_reducible assumption) | assumption)) HC0.out
               have HR561 := Aside0.mk (Kd.C_of_reads (h1 := fun _ => rfl) (hA33 _ (Kd.reads_of_C HR0.out)))
               have HC561 := Aside0.mk hC33
               clear hA33 hC33 hi033 hsz33
               try go_wp2_with (first | ((with_reducible refine gate_callee (f := 80) rfl ?_); refine goesL_ (some 49) rfl rfl Try.func80 (by kernel_rfl) rfl #[.int .u32 0, .slice (some ad558) (l0.take ((ji18) : Int).toNat).length c0] rfl (by (try simp only [List.map_toArray, List.map_cons, List.map_nil]); first | done | (rw [show (l0.take ((ji18) : Int).toNat).length = (ji18).toNat from (by rw [List.length_take]; have h_ : ((ji18) : Int) ≤ (l0.length : Int) := of_decide_eq_true (by first | (with_reducible assumption) | assumption); omega)] <;> rfl) | (simp only [hji18]; rfl) | rfl | (simp only [List.length_drop, List.length_take]; rfl) | (go_simp; done) | (simp [Act.eval, IntKind.signed]; done) | (simp [Act.eval, IntKind.signed]; rfl)) ?_; (with_reducible refine (lychref1_Add.calls kj13 0 _ _ (l0.take ((ji18) : Int).toNat) t562 _ ?side1 ?side2 A21.out).mono ?_); (case side1 => exact Kd.C_below HR561.out (bz HB)); (case side2 => exact HC561.out); rintro e w34 ⟨rfl, hb⟩; refine ⟨_, rfl, ?_⟩; have n0_ := Aside0.mk (blk_below (kz BK557) hb); have n1_ := Aside0.mk (below_step (bz HB) hb); clear BK557; clear HB; have BK557 := n0_; have HB := n1_; clear n0_ n1_; (try clear hb); (try clear hb2); (try clear hk); (try clear hi)) | ((with_reducible refine gate_callee (f := 79) rfl ?_); refine gL 50 Try.func79 #[.int .u32 t562] ?_; (with_reducible refine (lychref1_Fold.calls kj13 t562 t563 _ A22.out).mono ?_); rintro e w' ⟨rfl, ⟨nd, rfl⟩⟩; refine ⟨_, rfl, ?_⟩; (try (rw [drewN_self w34]; generalize hq_ : World.drewN w34 _ = w34; have n0_ : Aside0 (w34.heap[gb557]? = some (.cells #[.int .u8 0, .int .u8 0, .int .u8 0, .int .u16 0, .int .u8 0, .int .u16 0, .int .u32 0, .int .u32 0, .slice none 0 0, .slice none 0 0] 73 (0, 0))) := ⟨by rw [← hq_]; exact (kz BK557)⟩; have n1_ : Aside0 (Below w.heap.size w w34) := ⟨by rw [← hq_]; exact bz HB⟩; clear BK557 HB hq_; have BK557 := n0_; have HB := n1_; clear n0_ n1_))) | ((with_reducible refine gate_callee (f := 64) rfl ?_); refine gL 54 Try.func64 #[.slice (some ad558) l0.length c0, .int .i64 6] ?_; (with_reducible refine (lychref1_Get16.calls _ _ l0 6 t564 _ ?side1 ?side2 A24.out).mono ?_); (case side1 => exact Kd.C_below HR0.out (bz HB)); (case side2 => exact HC0.out); rintro e w' ⟨rfl, ⟨nd, rfl⟩⟩; refine ⟨_, rfl, ?_⟩; (try (rw [drewN_self w34]; generalize hq_ : World.drewN w34 _ = w34; have n0_ : Aside0 (w34.heap[gb557]? = some (.cells #[.int .u8 0, .int .u8 0, .int .u8 0, .int .u16 0, .int .u8 0, .int .u16 0, .int .u32 0, .int .u32 0, .slice none 0 0, .slice none 0 0] 73 (0, 0))) := ⟨by rw [← hq_]; exact (kz BK557)⟩; have n1_ : Aside0 (Below w.heap.size w w34) := ⟨by rw [← hq_]; exact bz HB⟩; clear BK557 HB hq_; have BK557 := n0_; have HB := n1_; clear n0_ n1_))))
               have n0_ := Aside0.mk (blk_drew BK557.out)
               have n1_ := Aside0.mk (below_drew1 HB.out)
               clear BK557
               clear HB
               have BK557 := n0_
               have HB := n1_
               clear n0_ n1_
               have p565 : 0 ≤ (1 : Int) := (by omega)
               have q565 : 1 < (l0.length : Int) := of_decide_eq_true (by first | (with_reducible assumption) | assumption)
               obtain ⟨ad565, e565, hx565_0⟩ := Kd.at_int HR0.out 1 p565 q565
               have hw565_0 := hx565_0
               (try rw [show ((1 : Int)).toNat = 1 from rfl] at hw565_0)
               (try rw [show 1 * 1 = 1 from rfl] at hw565_0)
               (try simp only [Nat.reduceMul, Nat.reduceEqDiff, Go.Addr.add, ↓reduceIte] at hw565_0)
               obtain rfl : ad558 = ad565 := (by injection e565)
               (try simp only [show (1 : Int).toNat = 1 from rfl, Nat.reduceMul, Nat.reduceEqDiff, Go.Addr.add, ↓reduceIte] at hx565_0)
               have qi565 : (1 < l0.length) = True := eq_true (by omega)
               (try rw [show ((1 : Int)).toNat = 1 from rfl] at hx565_0)
               replace hx565_0 := (HB.out.cell (World.block_lt_of_cell? w _ hx565_0)).trans hx565_0
               replace p565 := eq_true p565
               replace q565 := eq_true q565
               have p567 : 0 ≤ (8 : Int) := (by omega)
               have q567 : 8 < (l0.length : Int) := of_decide_eq_true (by first | (with_reducible assumption) | assumption)
               obtain ⟨ad567, e567, hx567_0⟩ := Kd.at_int HR0.out 8 p567 q567
               have hw567_0 := hx567_0
               (try rw [show ((8 : Int)).toNat = 8 from rfl] at hw567_0)
               (try rw [show 8 * 1 = 8 from rfl] at hw567_0)
               (try simp only [Nat.reduceMul, Nat.reduceEqDiff, Go.Addr.add, ↓reduceIte] at hw567_0)
               obtain rfl : ad558 = ad567 := (by injection e567)
               (try simp only [show (8 : Int).toNat = 8 from rfl, Nat.reduceMul, Nat.reduceEqDiff, Go.Addr.add, ↓reduceIte] at hx567_0)
               have qi567 : (8 < l0.length) = True := eq_true (by omega)
               (try rw [show ((8 : Int)).toNat = 8 from rfl] at hx567_0)
               replace hx567_0 := (HB.out.cell (World.block_lt_of_cell? w _ hx567_0)).trans hx567_0
               replace p567 := eq_true p567
               replace q567 := eq_true q567
               have p568 : 0 ≤ (9 : Int) := (by omega)
               have q568 : 9 < (l0.length : Int) := of_decide_eq_true (by first | (with_reducible assumption) | assumption)
               obtain ⟨ad568, e568, hx568_0⟩ := Kd.at_int HR0.out 9 p568 q568
               have hw568_0 := hx568_0
               (try rw [show ((9 : Int)).toNat = 9 from rfl] at hw568_0)
               (try rw [show 9 * 1 = 9 from rfl] at hw568_0)
               (try simp only [Nat.reduceMul, Nat.reduceEqDiff, Go.Addr.add, ↓reduceIte] at hw568_0)
               obtain rfl : ad558 = ad568 := (by injection e568)
               (try simp only [show (9 : Int).toNat = 9 from rfl, Nat.reduceMul, Nat.reduceEqDiff, Go.Addr.add, ↓reduceIte] at hx568_0)
               have qi568 : (9 < l0.length) = True := eq_true (by omega)
               (try rw [show ((9 : Int)).toNat = 9 from rfl] at hx568_0)
               replace hx568_0 := (HB.out.cell (World.block_lt_of_cell? w _ hx568_0)).trans hx568_0
               replace p568 := eq_true p568
               replace q568 := eq_true q568
               refine start_ (n := 30) (S := fun w' => w'.cell? ⟨ad558.block, ad558.off + 1, none⟩ = some (.int .u8 (rd l0 1)) ∧ w'.cell? ⟨ad558.block, ad558.off + 8, none⟩ = some (.int .u8 (rd l0 8)) ∧ w'.cell? ⟨ad558.block, ad558.off + 9, none⟩ = some (.int .u8 (rd l0 9))) (ds := []) #[false, false, false, false, false, false, false, false, false, false, false, false, false, false, false, false, false, false, false, false, false, false, false, false, false, false, false, false, false, false] (by kernel_rfl) rfl rfl ⟨((HB.out.cell (World.block_lt_of_cell? w _ hw565_0)).trans hw565_0), ((HB.out.cell (World.block_lt_of_cell? w _ hw567_0)).trans hw567_0), ((HB.out.cell (World.block_lt_of_cell? w _ hw568_0)).trans hw568_0)⟩ (fun hHeld => ?_); refine with_tabW lychref1_Ip.tab11 lychref1_Ip.bits11 (fun HT_ HW_ => ?_)
               generalize w34.drew = w35 at BK557 HB hx565_0 hx567_0 hx568_0 hHeld ⊢
               refine pz 0 55 HT_ ?_
               refine pz 1 56 HT_ ?_
               refine pz 3 58 HT_ ?_
               refine pz 5 60 HT_ ?_
               refine pz 6 61 HT_ ?_
               refine pz 7 62 HT_ ?_
               refine pz 8 63 HT_ ?_
               refine pz 9 64 HT_ ?_
               refine pz 10 65 HT_ ?_
               refine pz 11 66 HT_ ?_
               refine pz 13 68 HT_ ?_
               refine pz 14 69 HT_ ?_
               refine pz 16 71 HT_ ?_
               refine pz 18 73 HT_ ?_
               refine pz 20 75 HT_ ?_
               refine pz 21 76 HT_ ?_
               refine pz 23 78 HT_ ?_
               refine pz 24 79 HT_ ?_
               refine pz 25 80 HT_ ?_
               refine take_ (i := 2) (N := some 57) (v := ?_) (a' := ?_) #[true, true, true, true, false, true, true, true, true, true, true, true, false, true, true, false, true, false, true, false, true, true, false, true, true, true, false, false, false, false] rfl rfl (take_ofW HT_.out HW_.out (by kernel_rfl)) (fun _ _ _ h => h) (Or.inl ⟨by rfl, ?_⟩) hHeld ?_ ?_
               rotate_left
               ·rintro w' ⟨s0, s1, s2⟩
                go_simp
                with_reducible rfl
               rotate_left
               ·simp only [ps_]
                rfl
               refine take_ (i := 12) (N := some 67) (v := ?_) (a' := ?_) #[true, true, true, true, false, true, true, true, true, true, true, true, true, true, true, false, true, false, true, false, true, true, false, true, true, true, false, false, false, false] rfl rfl (take_ofW HT_.out HW_.out (by kernel_rfl)) (fun _ _ _ h => h) (Or.inl ⟨by rfl, ?_⟩) hHeld ?_ ?_
               rotate_left
               ·rintro w' ⟨s0, s1, s2⟩
                go_simp
                with_reducible rfl
               rotate_left
               ·simp only [ps_]
                rfl
               refine take_ (i := 15) (N := some 70) (v := ?_) (a' := ?_) #[true, true, true, true, false, true, true, true, true, true, true, true, true, true, true, true, true, false, true, false, true, true, false, true, true, true, false, false, false, false] rfl rfl (take_ofW HT_.out HW_.out (by kernel_rfl)) (fun _ _ _ h => h) (Or.inl ⟨by rfl, ?_⟩) hHeld ?_ ?_
               rotate_left
               ·rintro w' ⟨s0, s1, s2⟩
                go_simp
                with_reducible rfl
               rotate_left
               ·simp only [ps_]
                rfl
               refine oz 4 (some 59) HT_ (fun K hK => ?_)
               refine gG Try.func64 #[.slice (some ad558) l0.length c0, .int .i64 4] ?_
               with_reducible refine (lychref1_Get16.calls _ _ l0 4 t566 _ ?side1 ?side2 A26.out).mono ?_
               (case side1 => exact Kd.C_below HR0.out (bz HB))
               (case side2 => exact HC0.out)
               rintro e w' ⟨rfl, ⟨nd, rfl⟩⟩
               refine ⟨_, rfl, ?_⟩
               refine hK.out _ _ ⟨((HB.out.cell (World.block_lt_of_cell? w _ hw565_0)).trans hw565_0), ((HB.out.cell (World.block_lt_of_cell? w _ hw567_0)).trans hw567_0), ((HB.out.cell (World.block_lt_of_cell? w _ hw568_0)).trans hw568_0)⟩ (fun hHeld => ?_)
               clear hK K
               refine nz 59 ?_
               refine oz 17 (some 72) HT_ (fun K hK => ?_)
               refine gG Try.func81 #[.slice (some ad558) l0.length c0, .int .i64 12] ?_
               with_reducible refine (lychref1_Get32.calls _ _ l0 12 t569 _ ?side1 ?side2 A29.out).mono ?_
               (case side1 => exact Kd.C_below HR0.out (bz HB))
               (case side2 => exact HC0.out)
               rintro e w' ⟨rfl, ⟨nd, rfl⟩⟩
               refine ⟨_, rfl, ?_⟩
               refine hK.out _ _ ⟨((HB.out.cell (World.block_lt_of_cell? w _ hw565_0)).trans hw565_0), ((HB.out.cell (World.block_lt_of_cell? w _ hw567_0)).trans hw567_0), ((HB.out.cell (World.block_lt_of_cell? w _ hw568_0)).trans hw568_0)⟩ (fun hHeld => ?_)
               clear hK K
               refine nz 72 ?_
               refine oz 19 (some 74) HT_ (fun K hK => ?_)
               refine gG Try.func81 #[.slice (some ad558) l0.length c0, .int .i64 16] ?_
               with_reducible refine (lychref1_Get32.calls _ _ l0 16 t570 _ ?side1 ?side2 A30.out).mono ?_
               (case side1 => exact Kd.C_below HR0.out (bz HB))
               (case side2 => exact HC0.out)
               rintro e w' ⟨rfl, ⟨nd, rfl⟩⟩
               refine ⟨_, rfl, ?_⟩
               refine hK.out _ _ ⟨((HB.out.cell (World.block_lt_of_cell? w _ hw565_0)).trans hw565_0), ((HB.out.cell (World.block_lt_of_cell? w _ hw567_0)).trans hw567_0), ((HB.out.cell (World.block_lt_of_cell? w _ hw568_0)).trans hw568_0)⟩ (fun hHeld => ?_)
               clear hK K
               refine nz 74 ?_
               refine oz 22 (some 77) HT_ (fun K hK => ?_)
               refine goes_ Try.func65 (by kernel_rfl) rfl #[.slice (some ad558) l0.length c0, .int .i64 20, .int .i64 (ji18)] (by rfl) rfl rfl (by (try simp only [List.map_toArray, List.map_cons, List.map_nil]); first | done | (simp only [hji18]; rfl) | rfl | (simp only [List.length_drop, List.length_take]; rfl) | (go_simp; done) | (simp [Act.eval, IntKind.signed]; done) | (simp [Act.eval, IntKind.signed]; rfl)) ?_
               with_reducible refine (lychref1_cut.calls _ _ l0 20 (ji18) t571 _ ?side1 ?side2 A31.out).mono ?_
               (case side1 => exact Kd.C_below HR0.out (bz HB))
               (case side2 => exact HC0.out)
               rintro e w36 ⟨v572, rfl, ho0, hb⟩
               refine ⟨_, rfl, ?_⟩
               have n0_ := Aside0.mk (Kd.R_lower ho0 (below_size (bz HB)))
               have n1_ := Aside0.mk (blk_below (kz BK557) hb)
               have n2_ := Aside0.mk (below_step (bz HB) hb)
               clear BK557
               clear HB
               have HO573 := n0_
               have BK557 := n1_
               have HB := n2_
               clear n0_ n1_ n2_
               (try clear hb)
               (try clear hb2)
               (try clear hk)
               (try clear hi)
               (try clear ho0)
               refine hK.out _ _ ⟨((HB.out.cell (World.block_lt_of_cell? w _ hw565_0)).trans hw565_0), ((HB.out.cell (World.block_lt_of_cell? w _ hw567_0)).trans hw567_0), ((HB.out.cell (World.block_lt_of_cell? w _ hw568_0)).trans hw568_0)⟩ (fun hHeld => ?_)
               clear hK K
               refine nz 77 ?_
               refine oz 26 (some 81) HT_ (fun K hK => ?_)
               refine goes_ Try.func65 (by kernel_rfl) rfl #[.slice (some ad558) l0.length c0, .int .i64 (ji18), .int .i64 (wrap64 (t559))] (by rfl) rfl rfl (by (try simp only [List.map_toArray, List.map_cons, List.map_nil]); first | done | (simp only [hji18]; rfl) | rfl | (simp only [List.length_drop, List.length_take]; rfl) | (go_simp; done) | (simp [Act.eval, IntKind.signed]; done) | (simp [Act.eval, IntKind.signed]; rfl)) ?_
               with_reducible refine (lychref1_cut.calls _ _ l0 (ji18) (wrap64 (t559)) t574 _ ?side1 ?side2 A32.out).mono ?_
               (case side1 => exact Kd.C_below HR0.out (bz HB))
               (case side2 => exact HC0.out)
               rintro e w37 ⟨v575, rfl, ho0, hb⟩
               refine ⟨_, rfl, ?_⟩
               have n0_ := Aside0.mk (Kd.R_elder' (Kd.rz HO573) (Kd.R_base ho0) hb)
               have n1_ := Aside0.mk (Kd.R_lower (Kd.R_new' ho0 (Kd.R_lt (Kd.rz HO573))) (below_size (bz HB)))
               have n2_ := Aside0.mk (blk_below (kz BK557) hb)
               have n3_ := Aside0.mk (below_step (bz HB) hb)
               clear HO573
               clear BK557
               clear HB
               have HO573 := n0_
               have HO576 := n1_
               have BK557 := n2_
               have HB := n3_
               clear n0_ n1_ n2_ n3_
               (try clear hb)
               (try clear hb2)
               (try clear hk)
               (try clear hi)
               (try clear ho0)
               obtain ⟨Ao38, co38, eo38⟩ := Kd.R_slice HO576.out
               (first | subst eo38 | (injection eo38 with f1_ f2_ f3_; have f4_ := f1_.symm; have f5_ := f3_.symm; clear f1_ f2_ f3_; subst f4_; subst f5_))
               obtain ⟨Ao39, co39, eo39⟩ := Kd.R_slice HO573.out
               (first | subst eo39 | (injection eo39 with f1_ f2_ f3_; have f4_ := f1_.symm; have f5_ := f3_.symm; clear f1_ f2_ f3_; subst f4_; subst f5_))
               refine hK.out _ _ ⟨((HB.out.cell (World.block_lt_of_cell? w _ hw565_0)).trans hw565_0), ((HB.out.cell (World.block_lt_of_cell? w _ hw567_0)).trans hw567_0), ((HB.out.cell (World.block_lt_of_cell? w _ hw568_0)).trans hw568_0)⟩ (fun hHeld => ?_)
               clear hK K
               refine nz 81 ?_
               refine pz 27 82 HT_ ?_
               refine oz 28 (none) HT_ (fun K hK => ?_)
               have hs40_ := cs10 BK557.out
               have hfs40_ := blk_frozen BK557.out
               refine skip_ (w1 := ?_) (by rfl) rfl ?_ ?_
               rotate_left
               ·go_simp
                rfl
               refine hK.out _ _ ⟨((cell_far (p := ⟨gb557, _, none⟩) (by first | exact far1 hw565_0 GW557.out | exact far2 hw565_0 GW557.out) _).trans (((cell_far (p := ⟨gb557, _, none⟩) (by first | exact far1 hw565_0 GW557.out | exact far2 hw565_0 GW557.out) _).trans (((cell_far (p := ⟨gb557, _, none⟩) (by first | exact far1 hw565_0 GW557.out | exact far2 hw565_0 GW557.out) _).trans (((cell_far (p := ⟨gb557, _, none⟩) (by first | exact far1 hw565_0 GW557.out | exact far2 hw565_0 GW557.out) _).trans (((cell_far (p := ⟨gb557, _, none⟩) (by first | exact far1 hw565_0 GW557.out | exact far2 hw565_0 GW557.out) _).trans (((cell_far (p := ⟨gb557, _, none⟩) (by first | exact far1 hw565_0 GW557.out | exact far2 hw565_0 GW557.out) _).trans (((cell_far (p := ⟨gb557, _, none⟩) (by first | exact far1 hw565_0 GW557.out | exact far2 hw565_0 GW557.out) _).trans (((cell_far (p := ⟨gb557, _, none⟩) (by first | exact far1 hw565_0 GW557.out | exact far2 hw565_0 GW557.out) _).trans (((cell_far (p := ⟨gb557, _, none⟩) (by first | exact far1 hw565_0 GW557.out | exact far2 hw565_0 GW557.out) _).trans (((cell_far (p := ⟨gb557, _, none⟩) (by first | exact far1 hw565_0 GW557.out | exact far2 hw565_0 GW557.out) _).trans (hHeld.1)))))))))))))))))))), ((cell_far (p := ⟨gb557, _, none⟩) (by first | exact far1 hw567_0 GW557.out | exact far2 hw567_0 GW557.out) _).trans (((cell_far (p := ⟨gb557, _, none⟩) (by first | exact far1 hw567_0 GW557.out | exact far2 hw567_0 GW557.out) _).trans (((cell_far (p := ⟨gb557, _, none⟩) (by first | exact far1 hw567_0 GW557.out | exact far2 hw567_0 GW557.out) _).trans (((cell_far (p := ⟨gb557, _, none⟩) (by first | exact far1 hw567_0 GW557.out | exact far2 hw567_0 GW557.out) _).trans (((cell_far (p := ⟨gb557, _, none⟩) (by first | exact far1 hw567_0 GW557.out | exact far2 hw567_0 GW557.out) _).trans (((cell_far (p := ⟨gb557, _, none⟩) (by first | exact far1 hw567_0 GW557.out | exact far2 hw567_0 GW557.out) _).trans (((cell_far (p := ⟨gb557, _, none⟩) (by first | exact far1 hw567_0 GW557.out | exact far2 hw567_0 GW557.out) _).trans (((cell_far (p := ⟨gb557, _, none⟩) (by first | exact far1 hw567_0 GW557.out | exact far2 hw567_0 GW557.out) _).trans (((cell_far (p := ⟨gb557, _, none⟩) (by first | exact far1 hw567_0 GW557.out | exact far2 hw567_0 GW557.out) _).trans (((cell_far (p := ⟨gb557, _, none⟩) (by first | exact far1 hw567_0 GW557.out | exact far2 hw567_0 GW557.out) _).trans (hHeld.2.1)))))))))))))))))))), ((cell_far (p := ⟨gb557, _, none⟩) (by first | exact far1 hw568_0 GW557.out | exact far2 hw568_0 GW557.out) _).trans (((cell_far (p := ⟨gb557, _, none⟩) (by first | exact far1 hw568_0 GW557.out | exact far2 hw568_0 GW557.out) _).trans (((cell_far (p := ⟨gb557, _, none⟩) (by first | exact far1 hw568_0 GW557.out | exact far2 hw568_0 GW557.out) _).trans (((cell_far (p := ⟨gb557, _, none⟩) (by first | exact far1 hw568_0 GW557.out | exact far2 hw568_0 GW557.out) _).trans (((cell_far (p := ⟨gb557, _, none⟩) (by first | exact far1 hw568_0 GW557.out | exact far2 hw568_0 GW557.out) _).trans (((cell_far (p := ⟨gb557, _, none⟩) (by first | exact far1 hw568_0 GW557.out | exact far2 hw568_0 GW557.out) _).trans (((cell_far (p := ⟨gb557, _, none⟩) (by first | exact far1 hw568_0 GW557.out | exact far2 hw568_0 GW557.out) _).trans (((cell_far (p := ⟨gb557, _, none⟩) (by first | exact far1 hw568_0 GW557.out | exact far2 hw568_0 GW557.out) _).trans (((cell_far (p := ⟨gb557, _, none⟩) (by first | exact far1 hw568_0 GW557.out | exact far2 hw568_0 GW557.out) _).trans (((cell_far (p := ⟨gb557, _, none⟩) (by first | exact far1 hw568_0 GW557.out | exact far2 hw568_0 GW557.out) _).trans (hHeld.2.2))))))))))))))))))))⟩ (fun hHeld => ?_)
               clear hK K
               refine pz 29 3 HT_ ?_
               refine dz HT_ ?_
               try go_wp2
               refine bodyPost_ret (results_ct rfl _ _ gb557 73 #[.int .u8 (rd l0 1), .int .u8 (rd l0 8), .int .u8 (rd l0 9), .int .u16 t566, .int .u8 ((t564 / 8192) % 256), .int .u16 (Go.bits .and .u16 t564 8191), .int .u32 t569, .int .u32 t570, .slice Ao39 t571.length co39, .slice Ao38 t574.length co38] (0, 0) _ rfl (by (with_reducible repeat (first | refine blk_drewN ?_ _ | refine blk_drew ?_ | refine blk_alloc ?_ _)); refine blk_put (cs := #[.int .u8 (rd l0 1), .int .u8 (rd l0 8), .int .u8 (rd l0 9), .int .u16 t566, .int .u8 ((t564 / 8192) % 256), .int .u16 (Go.bits .and .u16 t564 8191), .int .u32 t569, .int .u32 t570, .slice Ao39 t571.length co39, .slice none 0 0]) ?_ 9 _ rfl; (with_reducible repeat (first | refine blk_drewN ?_ _ | refine blk_drew ?_ | refine blk_alloc ?_ _)); refine blk_put (cs := #[.int .u8 (rd l0 1), .int .u8 (rd l0 8), .int .u8 (rd l0 9), .int .u16 t566, .int .u8 ((t564 / 8192) % 256), .int .u16 (Go.bits .and .u16 t564 8191), .int .u32 t569, .int .u32 t570, .slice none 0 0, .slice none 0 0]) ?_ 8 _ rfl; (with_reducible repeat (first | refine blk_drewN ?_ _ | refine blk_drew ?_ | refine blk_alloc ?_ _)); refine blk_put (cs := #[.int .u8 (rd l0 1), .int .u8 (rd l0 8), .int .u8 (rd l0 9), .int .u16 t566, .int .u8 ((t564 / 8192) % 256), .int .u16 (Go.bits .and .u16 t564 8191), .int .u32 t569, .int .u32 0, .slice none 0 0, .slice none 0 0]) ?_ 7 _ rfl; (with_reducible repeat (first | refine blk_drewN ?_ _ | refine blk_drew ?_ | refine blk_alloc ?_ _)); refine blk_put (cs := #[.int .u8 (rd l0 1), .int .u8 (rd l0 8), .int .u8 (rd l0 9), .int .u16 t566, .int .u8 ((t564 / 8192) % 256), .int .u16 (Go.bits .and .u16 t564 8191), .int .u32 0, .int .u32 0, .slice none 0 0, .slice none 0 0]) ?_ 6 _ rfl; (with_reducible repeat (first | refine blk_drewN ?_ _ | refine blk_drew ?_ | refine blk_alloc ?_ _)); refine blk_put (cs := #[.int .u8 (rd l0 1), .int .u8 (rd l0 8), .int .u8 (rd l0 9), .int .u16 t566, .int .u8 ((t564 / 8192) % 256), .int .u16 0, .int .u32 0, .int .u32 0, .slice none 0 0, .slice none 0 0]) ?_ 5 _ rfl; (with_reducible repeat (first | refine blk_drewN ?_ _ | refine blk_drew ?_ | refine blk_alloc ?_ _)); refine blk_put (cs := #[.int .u8 (rd l0 1), .int .u8 (rd l0 8), .int .u8 (rd l0 9), .int .u16 t566, .int .u8 0, .int .u16 0, .int .u32 0, .int .u32 0, .slice none 0 0, .slice none 0 0]) ?_ 4 _ rfl; (with_reducible repeat (first | refine blk_drewN ?_ _ | refine blk_drew ?_ | refine blk_alloc ?_ _)); refine blk_put (cs := #[.int .u8 (rd l0 1), .int .u8 (rd l0 8), .int .u8 (rd l0 9), .int .u16 0, .int .u8 0, .int .u16 0, .int .u32 0, .int .u32 0, .slice none 0 0, .slice none 0 0]) ?_ 3 _ rfl; (with_reducible repeat (first | refine blk_drewN ?_ _ | refine blk_drew ?_ | refine blk_alloc ?_ _)); refine blk_put (cs := #[.int .u8 (rd l0 1), .int .u8 (rd l0 8), .int .u8 0, .int .u16 0, .int .u8 0, .int .u16 0, .int .u32 0, .int .u32 0, .slice none 0 0, .slice none 0 0]) ?_ 2 _ rfl; (with_reducible repeat (first | refine blk_drewN ?_ _ | refine blk_drew ?_ | refine blk_alloc ?_ _)); refine blk_put (cs := #[.int .u8 (rd l0 1), .int .u8 0, .int .u8 0, .int .u16 0, .int .u8 0, .int .u16 0, .int .u32 0, .int .u32 0, .slice none 0 0, .slice none 0 0]) ?_ 1 _ rfl; (with_reducible repeat (first | refine blk_drewN ?_ _ | refine blk_drew ?_ | refine blk_alloc ?_ _)); refine blk_put (cs := #[.int .u8 0, .int .u8 0, .int .u8 0, .int .u16 0, .int .u8 0, .int .u16 0, .int .u32 0, .int .u32 0, .slice none 0 0, .slice none 0 0]) ?_ 0 _ rfl; (with_reducible repeat (first | refine blk_drewN ?_ _ | refine blk_drew ?_ | refine blk_alloc ?_ _)); exact BK557.out) Try.underlying73 rfl (by kernel_rfl)) rfl ?_
               exact ⟨_, _, by first | rfl | (simp [errW_none, errW_some] <;> rfl) | (simp only [← hji18]; first | rfl | (simp [errW_none, errW_some] <;> rfl)) | (simp [*, errW_none, errW_some] <;> rfl), by (with_reducible repeat (first | apply Kd.R_alloc | apply Kd.R_drewN | apply Kd.R_drew)); exact Kd.R_mono (Kd.R_far (p := ⟨gb557, 9, none⟩) (Kd.R_far (p := ⟨gb557, 8, none⟩) (Kd.R_far (p := ⟨gb557, 7, none⟩) (Kd.R_far (p := ⟨gb557, 6, none⟩) (Kd.R_far (p := ⟨gb557, 5, none⟩) (Kd.R_far (p := ⟨gb557, 4, none⟩) (Kd.R_far (p := ⟨gb557, 3, none⟩) (Kd.R_far (p := ⟨gb557, 2, none⟩) (Kd.R_far (p := ⟨gb557, 1, none⟩) (Kd.R_far (p := ⟨gb557, 0, none⟩) (Kd.R_types HO573.out BK557.out (by decide)) (fun _ hk => hk.2) (.int .u8 (rd l0 1))) (fun _ hk => hk.2) (.int .u8 (rd l0 8))) (fun _ hk => hk.2) (.int .u8 (rd l0 9))) (fun _ hk => hk.2) (.int .u16 t566)) (fun _ hk => hk.2) (.int .u8 ((t564 / 8192) % 256))) (fun _ hk => hk.2) (.int .u16 (Go.bits .and .u16 t564 8191))) (fun _ hk => hk.2) (.int .u32 t569)) (fun _ hk => hk.2) (.int .u32 t570)) (fun _ hk => hk.2) (.slice Ao39 t571.length co39)) (fun _ hk => hk.2) (.slice Ao38 t574.length co38)) (fun _ hk => hk.1.2), by (with_reducible repeat (first | apply Kd.R_alloc | apply Kd.R_drewN | apply Kd.R_drew)); exact Kd.R_mono (Kd.R_far (p := ⟨gb557, 9, none⟩) (Kd.R_far (p := ⟨gb557, 8, none⟩) (Kd.R_far (p := ⟨gb557, 7, none⟩) (Kd.R_far (p := ⟨gb557, 6, none⟩) (Kd.R_far (p := ⟨gb557, 5, none⟩) (Kd.R_far (p := ⟨gb557, 4, none⟩) (Kd.R_far (p := ⟨gb557, 3, none⟩) (Kd.R_far (p := ⟨gb557, 2, none⟩) (Kd.R_far (p := ⟨gb557, 1, none⟩) (Kd.R_far (p := ⟨gb557, 0, none⟩) (Kd.R_types HO576.out BK557.out (by decide)) (fun _ hk => hk.2) (.int .u8 (rd l0 1))) (fun _ hk => hk.2) (.int .u8 (rd l0 8))) (fun _ hk => hk.2) (.int .u8 (rd l0 9))) (fun _ hk => hk.2) (.int .u16 t566)) (fun _ hk => hk.2) (.int .u8 ((t564 / 8192) % 256))) (fun _ hk => hk.2) (.int .u16 (Go.bits .and .u16 t564 8191))) (fun _ hk => hk.2) (.int .u32 t569)) (fun _ hk => hk.2) (.int .u32 t570)) (fun _ hk => hk.2) (.slice Ao39 t571.length co39)) (fun _ hk => hk.2) (.slice Ao38 t574.length co38)) (fun _ hk => hk.1.2), bz HB⟩
              ·rw [if_neg c28] at H
               exact absurd H (by simp)
             ·rw [if_neg c27] at H
              exact absurd H (by simp)
            ·rw [if_neg c25] at H
             exact absurd H (by simp)
           ·rw [if_neg c23] at H
            have c23b0 : (t563 == 65535) = false := beq_eq_false_iff_ne.mpr c23
            have c23b1 : (t563 != 65535) = true := bne_iff_ne.mpr c23
            simp only [Option.some.injEq, Prod.mk.injEq] at H
            obtain ⟨rfl, rfl, rfl, rfl, rfl, rfl, rfl, rfl, rfl, rfl, rfl⟩ := H
            obtain ⟨i050, hi050, _, hsz50, _⟩ := info_parts info5
            obtain ⟨hcut50, hA50, hC50⟩ := print_take_of (P := Try.prog) (Value.int .u8) 0 23 5 .i64 Try.underlying23 hi050 hsz50 (some ad558) c0 l0 (ji18) (of_decide_eq_true (by first | (with_reducible assumption) | assumption)) (of_decide_eq_true (by first | (with_reducible assumption) | assumption)) HC0.out
            have HR561 := Aside0.mk (Kd.C_of_reads (h1 := fun _ => rfl) (hA50 _ (Kd.reads_of_C HR0.out)))
            have HC561 := Aside0.mk hC50
            clear hA50 hC50 hi050 hsz50
            go_wp2_with (first | ((with_reducible refine gate_callee (f := 80) rfl ?_); refine goesL_ (some 49) rfl rfl Try.func80 (by kernel_rfl) rfl #[.int .u32 0, .slice (some ad558) (l0.take ((ji18) : Int).toNat).length c0] rfl (by (try simp only [List.map_toArray, List.map_cons, List.map_nil]); first | done | (rw [show (l0.take ((ji18) : Int).toNat).length = (ji18).toNat from (by rw [List.length_take]; have h_ : ((ji18) : Int) ≤ (l0.length : Int) := of_decide_eq_true (by first | (with_reducible assumption) | assumption); omega)] <;> rfl) | (simp only [hji18]; rfl) | rfl | (simp only [List.length_drop, List.length_take]; rfl) | (go_simp; done) | (simp [Act.eval, IntKind.signed]; done) | (simp [Act.eval, IntKind.signed]; rfl)) ?_; (with_reducible refine (lychref1_Add.calls kj13 0 _ _ (l0.take ((ji18) : Int).toNat) t562 _ ?side1 ?side2 A21.out).mono ?_); (case side1 => exact Kd.C_below HR561.out (bz HB)); (case side2 => exact HC561.out); rintro e w51 ⟨rfl, hb⟩; refine ⟨_, rfl, ?_⟩; have n0_ := Aside0.mk (blk_below (kz BK557) hb); have n1_ := Aside0.mk (below_step (bz HB) hb); clear BK557; clear HB; have BK557 := n0_; have HB := n1_; clear n0_ n1_; (try clear hb); (try clear hb2); (try clear hk); (try clear hi)) | ((with_reducible refine gate_callee (f := 79) rfl ?_); refine gL 50 Try.func79 #[.int .u32 t562] ?_; (with_reducible refine (lychref1_Fold.calls kj13 t562 t563 _ A22.out).mono ?_); rintro e w' ⟨rfl, ⟨nd, rfl⟩⟩; refine ⟨_, rfl, ?_⟩; (try (rw [drewN_self w51]; generalize hq_ : World.drewN w51 _ = w51; have n0_ : Aside0 (w51.heap[gb557]? = some (.cells #[.int .u8 0, .int .u8 0, .int .u8 0, .int .u16 0, .int .u8 0, .int .u16 0, .int .u32 0, .int .u32 0, .slice none 0 0, .slice none 0 0] 73 (0, 0))) := ⟨by rw [← hq_]; exact (kz BK557)⟩; have n1_ : Aside0 (Below w.heap.size w w51) := ⟨by rw [← hq_]; exact bz HB⟩; clear BK557 HB hq_; have BK557 := n0_; have HB := n1_; clear n0_ n1_)); have hcz52_0 : w51.cell? ⟨gb557, 0, none⟩ = some (.int .u8 0) := cz BK557.out 0 rfl; have hcz52_1 : w51.cell? ⟨gb557, 1, none⟩ = some (.int .u8 0) := cz BK557.out 1 rfl; have hcz52_2 : w51.cell? ⟨gb557, 2, none⟩ = some (.int .u8 0) := cz BK557.out 2 rfl; have hcz52_3 : w51.cell? ⟨gb557, 3, none⟩ = some (.int .u16 0) := cz BK557.out 3 rfl; have hcz52_4 : w51.cell? ⟨gb557, 4, none⟩ = some (.int .u8 0) := cz BK557.out 4 rfl; have hcz52_5 : w51.cell? ⟨gb557, 5, none⟩ = some (.int .u16 0) := cz BK557.out 5 rfl; have hcz52_6 : w51.cell? ⟨gb557, 6, none⟩ = some (.int .u32 0) := cz BK557.out 6 rfl; have hcz52_7 : w51.cell? ⟨gb557, 7, none⟩ = some (.int .u32 0) := cz BK557.out 7 rfl; have hcz52_8 : w51.cell? ⟨gb557, 8, none⟩ = some (.slice none 0 0) := cz BK557.out 8 rfl; have hcz52_9 : w51.cell? ⟨gb557, 9, none⟩ = some (.slice none 0 0) := cz BK557.out 9 rfl; have hfz52_0 := blk_frozen BK557.out 0; have hfz52_1 := blk_frozen BK557.out 1; have hfz52_2 := blk_frozen BK557.out 2; have hfz52_3 := blk_frozen BK557.out 3; have hfz52_4 := blk_frozen BK557.out 4; have hfz52_5 := blk_frozen BK557.out 5; have hfz52_6 := blk_frozen BK557.out 6; have hfz52_7 := blk_frozen BK557.out 7; have hfz52_8 := blk_frozen BK557.out 8; have hfz52_9 := blk_frozen BK557.out 9))
            refine bodyPost_ret (results_ct rfl _ _ gb557 73 #[.int .u8 0, .int .u8 0, .int .u8 0, .int .u16 0, .int .u8 0, .int .u16 0, .int .u32 0, .int .u32 0, .slice none 0 0, .slice none 0 0] (0, 0) _ rfl (by (repeat (first | with_reducible refine blk_drewN ?_ _ | with_reducible refine blk_drew ?_ | with_reducible refine blk_alloc ?_ _ | refine blk_put (cs := #[.int .u8 0, .int .u8 0, .int .u8 0, .int .u16 0, .int .u8 0, .int .u16 0, .int .u32 0, .int .u32 0, .slice none 0 0, .slice none 0 0]) ?_ _ _ rfl)); (with_reducible repeat (first | refine blk_drewN ?_ _ | refine blk_drew ?_ | refine blk_alloc ?_ _)); exact BK557.out) Try.underlying73 rfl (by kernel_rfl)) rfl ?_
            exact ⟨_, _, by first | rfl | (simp [errW_none, errW_some] <;> rfl) | (simp only [← hji18]; first | rfl | (simp [errW_none, errW_some] <;> rfl)) | (simp [*, errW_none, errW_some] <;> rfl), by first | exact Kd.R_nil _ _ _ _ _ | exact Kd.N_nil _ _ _ _ _ | exact Kd.V_nil _ _ _ _ _ | exact Kd.Q_nil _ _ _ _ _ | exact Kd.S_nil _ _ _ _ _, by first | exact Kd.R_nil _ _ _ _ _ | exact Kd.N_nil _ _ _ _ _ | exact Kd.V_nil _ _ _ _ _ | exact Kd.Q_nil _ _ _ _ _ | exact Kd.S_nil _ _ _ _ _, bz HB⟩
          ·rw [if_neg c20] at H
           exact absurd H (by simp)
         ·rw [if_neg c19] at H
          exact absurd H (by simp)
  ·rw [if_neg c5] at H
   exact absurd H (by simp)
end Go.Proofs.Ytkmimamminddiaa.PB
namespace Go.Proofs.Ytkmimamminddiaa.PB
open Go.RowKit Go.Proofs.YtkmimamminddiaaW.PrintWords Go.Proofs.YtkmimamminddiaaW.PrintLast Go.Proofs.YtkmimamminddiaaW.PrintMore
set_option linter.unusedVariables false
set_option linter.unusedSimpArgs false
def seat_Inside2.R5.T : Bool × List (List Nat × List Nat) := (true, [([], []), ([0], [0]), ([1], [1]), ([2], [2]), ([], []), ([4], [4]), ([], []), ([3, 5, 6], [3, 5, 6]), ([7, 3], [7]), ([8], [8]), ([9], [9]), ([9], [9]), ([10, 8, 0, 1, 2, 3, 4, 5, 6, 7, 8, 9, 10], [10]), ([11, 12, 0, 1, 2, 3, 4, 5, 6, 7, 8, 9, 10, 11, 12], [11])])
theorem seat_Inside2.R5.tab : rtab .any (opsOf Try.f16 5) = seat_Inside2.R5.T := by kernel_rfl
theorem seat_Inside2.R5.bits : waitsOk seat_Inside2.R5.T.2 [0, 1, 3, 7, 0, 16, 0, 127, 255, 511, 1023, 1023, 2047, 8191] = true := by kernel_rfl
theorem seat_Inside2.calls (k : Nat) (a0_0 a0_1 a0_2 a0_3 a0_4 a0_5 a0_6 a0_7 a0_8 a0_9 a0_10 a0_11 a0_12 a0_13 a0_14 a0_15 a0_16 a0_17 a0_18 a0_19 a0_20 a0_21 a0_22 a0_23 a0_24 a0_25 a0_26 a0_27 : Int) (A0_28 : Option Addr) (n0_28 c0_28 : Nat) (A2 : Option Addr) (c2 : Nat) (l2 : List Int) (r : List Int) (w : World) (hr2 : Kd.C (Kd.int .u8) w A2 l2.length l2) (hc2 : l2.length ≤ c2) (h : seatInF k 102 3 a0_0 a0_1 a0_2 a0_3 a0_4 a0_5 a0_6 l2 = some r) :
  Calls Try.prog 16 #[.agg #[.int .u32 a0_0, .int .u8 a0_1, .int .u8 a0_2, .int .u8 a0_3, .int .u8 a0_4, .int .u8 a0_5, .int .u8 a0_6, .int .u8 a0_7, .int .u8 a0_8, .int .u8 a0_9, .int .u8 a0_10, .int .u8 a0_11, .int .u8 a0_12, .int .u8 a0_13, .int .u8 a0_14, .int .u8 a0_15, .int .u8 a0_16, .int .u8 a0_17, .int .u8 a0_18, .int .u8 a0_19, .int .u8 a0_20, .int .u8 a0_21, .int .u8 a0_22, .int .u8 a0_23, .int .u8 a0_24, .int .u8 a0_25, .int .u8 a0_26, .int .u32 a0_27, .slice A0_28 n0_28 c0_28], .int .i64 2, .slice A2 l2.length c2] w fun e w' => ∃ v0_ : Value, e = .returned v0_ ∧ Kd.R (Kd.int .u8) 5 w' w.heap.size (fun _ => True) v0_ r ∧ Below w.heap.size w w' := by
 have hu33 := Try.underlying33
 have hu29 := Try.underlying29
 have hu73 := Try.underlying73
 have hu83 := Try.underlying83
 have hu58 := Try.underlying58
 have HK2 := Aside0.mk hr2
 have HC2 := Aside0.mk hc2
 have HB := Aside0.mk (Below.refl w.heap.size w)
 clear hr2 hc2
 have H : seatInF k 102 3 a0_0 a0_1 a0_2 a0_3 a0_4 a0_5 a0_6 l2 = some r := h
 clear h
 unfold seatInF at H
 obtain ⟨ad_, had, H⟩ := bind_some_ H
 obtain ⟨⟨x, xe⟩, hx, H⟩ := bind_some_ H
 obtain ⟨⟨v, ve⟩, hv, H⟩ := bind_some_ H
 obtain ⟨⟨u, ue⟩, hu, H⟩ := bind_some_ H
 obtain ⟨⟨q, qe⟩, hq, H⟩ := bind_some_ H
 obtain ⟨⟨o, oe⟩, hz, H⟩ := bind_some_ H
 obtain rfl := Option.some.inj H
 have HA := Aside0.mk had
 have HIP := Aside0.mk hq
 go_enter Try.func16, Try.ntmps16
 go_upto_region 1 with (((with_reducible refine gate_dst (N := 3) rfl ?_); refine box_event ?hg (N := 3) ?hd (cs := #[.int .u32 a0_0, .int .u8 a0_1, .int .u8 a0_2, .int .u8 a0_3, .int .u8 a0_4, .int .u8 a0_5, .int .u8 a0_6, .int .u8 a0_7, .int .u8 a0_8, .int .u8 a0_9, .int .u8 a0_10, .int .u8 a0_11, .int .u8 a0_12, .int .u8 a0_13, .int .u8 a0_14, .int .u8 a0_15, .int .u8 a0_16, .int .u8 a0_17, .int .u8 a0_18, .int .u8 a0_19, .int .u8 a0_20, .int .u8 a0_21, .int .u8 a0_22, .int .u8 a0_23, .int .u8 a0_24, .int .u8 a0_25, .int .u8 a0_26, .int .u32 a0_27, .slice A0_28 n0_28 c0_28]) (t := 33) ?hr ?_; (case hd => rfl); (case hg => rfl); (case hr => first | (go_simp; done) | (go_simp; rfl)); intro gp hg w1 hbox hb; have n0_ := Aside0.mk (below_step (bz HB) hb); have HQ := Aside0.mk hbox; clear HB ; have HB := n0_; clear n0_  hb hbox hg))
 have gp1 := cz HQ.out 1 rfl
 have gp2 := cz HQ.out 2 rfl
 have gp3 := cz HQ.out 3 rfl
 have gp4 := cz HQ.out 4 rfl
 have gp5 := cz HQ.out 5 rfl
 have gp6 := cz HQ.out 6 rfl
 have n_K := Aside0.mk (Kd.C_below HK2.out HB.out)
 clear HK2
 go_wp2_with fail
 clear gp1 gp2 gp3 gp4 gp5 gp6
 refine (lychref1_EthBytes.calls a0_1 a0_2 a0_3 a0_4 a0_5 a0_6 2 7 0 0 0 0 2048 A2 c2 l2 x xe _ n_K.out HC2.out hx).mono ?_
 rintro e w2 ⟨v_, rfl, ho, hb⟩
 obtain ⟨Ax, cx, rfl, hcx, hkx⟩ := Kd.R_reads ho
 have HKx := Aside0.mk hkx
 have HCx := Aside0.mk hcx
 clear ho hkx hcx n_K hx
 have hb_ := hb
 have n_HB := Aside0.mk (below_step HB.out hb_)
 have n_HQ := Aside0.mk (blk_below HQ.out hb_)
 clear HB HQ hb_
 have HB := n_HB
 have HQ := n_HQ
 clear n_HB n_HQ
 clear hb
 (try dsimp only)
 go_wp2_with fail
 refine (lychref1_VxlanBytes.calls 102 Ax cx x v ve _ HKx.out HCx.out hv).mono ?_
 rintro e w3 ⟨v_, rfl, ho, hb⟩
 obtain ⟨Av, cv, rfl, hcv, hkv⟩ := Kd.R_reads ho
 have HKv := Aside0.mk hkv
 have HCv := Aside0.mk hcv
 clear ho hkv hcv HKx hv
 have hb_ := hb
 have n_HB := Aside0.mk (below_step HB.out hb_)
 have n_HQ := Aside0.mk (blk_below HQ.out hb_)
 clear HB HQ hb_
 have HB := n_HB
 have HQ := n_HQ
 clear n_HB n_HQ
 clear hb
 (try dsimp only)
 go_upto_region 4 with (((refine ev_skip_ rfl rfl (st_new_ rfl rfl rfl (by kernel_rfl) rfl (by simp [Value.oneCell'])) ?_)))
 obtain ⟨gu, hgu⟩ : ∃ x_, x_ = w3.heap.size := ⟨_, rfl⟩
 have HXu : Aside0 ((w3.alloc (.cells #[.int .u16 7777, .int .u16 4789, .int .u16 0, .slice Av v.length cv] 83)).heap[gu]? = some (.cells #[.int .u16 7777, .int .u16 4789, .int .u16 0, .slice Av v.length cv] 83 (0, 0))) := ⟨by rw [hgu]; exact blk_new' _ _⟩
 rw [← hgu]
 clear hgu
 have hb_ := below_alloc (Below.refl w3.heap.size w3) (.cells #[.int .u16 7777, .int .u16 4789, .int .u16 0, .slice Av v.length cv] 83)
 have n_HB := Aside0.mk (below_step HB.out hb_)
 have n_HQ := Aside0.mk (blk_below HQ.out hb_)
 have n_HKv := Aside0.mk (Kd.C_below HKv.out hb_)
 clear HB HQ HKv hb_
 have HB := n_HB
 have HQ := n_HQ
 have HKv := n_HKv
 clear n_HB n_HQ n_HKv
 generalize (w3.alloc (.cells #[.int .u16 7777, .int .u16 4789, .int .u16 0, .slice Av v.length cv] 83)) = w4 at HXu HB HQ HKv ⊢
 have gu0 := cz HXu.out 0 rfl
 have gu1 := cz HXu.out 1 rfl
 have gu2 := cz HXu.out 2 rfl
 have gu3 := cz HXu.out 3 rfl
 (try dsimp only)
 go_wp2_with fail
 clear gu0 gu1 gu2 gu3 HXu
 refine (lychref1_UdpBytes.calls 7777 4789 0 Av cv v u ue _ HKv.out HCv.out hu).mono ?_
 rintro e w6 ⟨v_, rfl, ho, hb⟩
 obtain ⟨Au, cu, rfl, hcu, hku⟩ := Kd.R_reads ho
 have HKu := Aside0.mk hku
 have HCu := Aside0.mk hcu
 clear ho hku hcu HKv hu
 have hb_ := hb
 have n_HB := Aside0.mk (below_step HB.out hb_)
 have n_HQ := Aside0.mk (blk_below HQ.out hb_)
 clear HB HQ hb_
 have HB := n_HB
 have HQ := n_HQ
 clear n_HB n_HQ
 clear hb
 (try dsimp only)
 go_upto_region 5 with (fail)
 refine start_ (n := 14) (S := fun w' => w'.cell? ⟨gp, 0, none⟩ = some (.int .u32 a0_0)) (ds := []) #[false, false, false, false, false, false, false, false, false, false, false, false, false, false] (by kernel_rfl) rfl rfl (cz HQ.out 0 rfl) (fun hHeld => ?_)
 refine with_tabW seat_Inside2.R5.tab seat_Inside2.R5.bits (fun HT_ HW_ => ?_)
 have hb_ := below_drew1 (Below.refl w6.heap.size w6)
 have n_HB := Aside0.mk (below_step HB.out hb_)
 have n_HQ := Aside0.mk (blk_below HQ.out hb_)
 have n_HKu := Aside0.mk (Kd.C_below HKu.out hb_)
 clear HB HQ HKu hb_
 have HB := n_HB
 have HQ := n_HQ
 have HKu := n_HKu
 clear n_HB n_HQ n_HKu
 generalize w6.drew = w6 at HB HQ HKu hHeld ⊢
 refine pz 0 43 HT_ ?_
 refine pure_ (i := 1) (N := some 44) (v := ?_) (a' := ?_) #[true, true, false, false, false, false, false, false, false, false, false, false, false, false] rfl rfl (any_of HT_.out (by kernel_rfl)) (fun _ _ _ h => h) (Or.inl ⟨by rfl, ?_⟩) ?_ ?_
 rotate_left
 ·intro w'
  go_simp
  first | exact (show Value.int .u8 (IntKind.u8.wrap 2) = Value.int .u8 2 from rfl) | with_reducible rfl
 rotate_left
 ·simp only [ps_]
  rfl
 refine pure_ (i := 2) (N := some 45) (v := ?_) (a' := ?_) #[true, true, true, false, false, false, false, false, false, false, false, false, false, false] rfl rfl (any_of HT_.out (by kernel_rfl)) (fun _ _ _ h => h) (Or.inl ⟨by rfl, ?_⟩) ?_ ?_
 rotate_left
 ·intro w'
  go_simp
  first | exact (show Value.int .u8 (IntKind.u8.wrap (2 + 1)) = Value.int .u8 3 from rfl) | with_reducible rfl
 rotate_left
 ·simp only [ps_]
  rfl
 refine pz 4 47 HT_ ?_
 refine pz 6 49 HT_ ?_
 refine tz 5 48 HT_ HW_ hHeld ?_
 refine oz 3 (some 46) HT_ (fun K hK => ?_)
 refine goes_ Try.func44 (by kernel_rfl) rfl #[.int .u8 10, .int .u8 9, .int .u8 0, .int .u8 3] (by rfl) rfl rfl (by first | rfl | (go_simp; done) | (go_simp; rfl) | (go_simp; decide)) ?_
 refine (lychseat_Addr.calls 10 9 0 3 ad_ _ HA.out).mono ?_
 rintro e w_ ⟨rfl, ⟨nd, rfl⟩⟩
 refine ⟨_, rfl, ?_⟩
 have hb_ := pw_below_drewN (Below.refl w6.heap.size w6) nd
 have n_HB := Aside0.mk (below_step HB.out hb_)
 have n_HQ := Aside0.mk (blk_below HQ.out hb_)
 have n_HKu := Aside0.mk (Kd.C_below HKu.out hb_)
 clear HB HQ HKu hb_
 have HB := n_HB
 have HQ := n_HQ
 have HKu := n_HKu
 clear n_HB n_HQ n_HKu
 refine hK.out _ _ (cz HQ.out 0 rfl) (fun hHeld => ?_)
 clear hK K
 refine nz 46 ?_
 refine pz 7 50 HT_ ?_
 refine oz 8 (some 51) HT_ (fun K hK => ?_)
 refine goes_ Try.func41 (by kernel_rfl) rfl #[.agg #[.int .u8 0, .int .u8 9, .int .u8 17, .int .u16 0, .int .u8 0, .int .u16 0, .int .u32 ad_, .int .u32 a0_0, .slice none 0 0, .slice Au u.length cu]] (by rfl) rfl rfl (by first | rfl | (go_simp; done) | (go_simp; rfl) | (go_simp; decide)) ?_
 refine (lychref1_IpBytes.calls k 0 9 17 0 0 0 ad_ a0_0 none 0 [] Au cu u q qe _ (Kd.C_nil _ _) (Nat.le_refl _) HKu.out HCu.out HIP.out).mono ?_
 rintro e w7 ⟨v_, rfl, ho, hb⟩
 obtain ⟨Aq, cq, rfl, hcq, hkq⟩ := Kd.R_reads ho
 have HKq := Aside0.mk hkq
 have HCq := Aside0.mk hcq
 clear ho HKu hkq hcq
 refine ⟨_, rfl, ?_⟩
 have hb_ := hb
 have n_HB := Aside0.mk (below_step HB.out hb_)
 have n_HQ := Aside0.mk (blk_below HQ.out hb_)
 clear HB HQ hb_
 have HB := n_HB
 have HQ := n_HQ
 clear n_HB n_HQ
 clear hb
 refine hK.out _ _ (cz HQ.out 0 rfl) (fun hHeld => ?_)
 clear hK K
 refine nz 51 ?_
 refine pz 9 42 HT_ ?_
 refine pz 10 52 HT_ ?_
 refine pz 11 53 HT_ ?_
 refine pz 12 14 HT_ ?_
 refine pz 13 15 HT_ ?_
 refine dz HT_ ?_
 clear HT_ HW_ hHeld
 (try dsimp only)
 have gp1 := cz HQ.out 1 rfl
 have gp2 := cz HQ.out 2 rfl
 have gp3 := cz HQ.out 3 rfl
 have gp4 := cz HQ.out 4 rfl
 have gp5 := cz HQ.out 5 rfl
 have gp6 := cz HQ.out 6 rfl
 go_wp2_with fail
 clear gp1 gp2 gp3 gp4 gp5 gp6
 refine (lychref1_EthBytes.calls a0_1 a0_2 a0_3 a0_4 a0_5 a0_6 2 9 0 0 0 0 2048 Aq cq q o oe _ HKq.out HCq.out hz).mono ?_
 rintro e w8 ⟨v_, rfl, ho, hb⟩
 have HO := Aside0.mk (Kd.R_lower ho (below_size HB.out))
 obtain ⟨Ao, co, rfl, _, _⟩ := Kd.R_reads ho
 clear ho HKq
 have hb_ := hb
 have n_HB := Aside0.mk (below_step HB.out hb_)
 clear HB hb_
 have HB := n_HB
 clear n_HB
 clear hb
 (try dsimp only)
 go_wp2
 (try simp only [Exit.inBlock, Exit.then])
 go_ret
 exact ⟨_, rfl, HO.out, HB.out⟩
def rinsF (k : Nat) (ip m1 m2 m3 m4 m5 m6 : Int) (b : List Int) : Option (Int × List Int × Int) :=
 if (1600 : Int) < (b.length : Int) then some (0, [], 3) else
 (lychref1_Eth.f b).bind fun ⟨x0, x1, x2, x3, x4, x5, _, _, _, _, _, _, ty, bd, e⟩ => if e = 0 ∧ (x0 == m1 && (x1 == m2 && (x2 == m3 && (x3 == m4 && (x4 == m5 && (x5 == m6)))))) = true ∧ ty = 2048 then
  (lychref1_Ip.f k bd).bind fun ⟨_, _, pr, _, fl, of, sr, ds, _, pb, e⟩ => if e = 0 ∧ ds = ip ∧ pr = 17 ∧ Go.bits .and .u8 fl 1 = 0 ∧ of = 0 then
   (lychref1_Udp.f pb).bind fun ⟨us, ud, um, ub, ue⟩ => if ue = 0 ∧ ud = 4789 then
    (lychref1_UdpRight.f k sr ds us ud um ub).bind fun r => if r = true then
     (lychref1_Vxlan.f ub).bind fun ⟨v, vb, ve⟩ => if ve = 0 then
      (lychref1_Eth.f vb).bind fun ⟨_, _, _, _, _, _, _, _, _, _, _, _, ty, fb, fe⟩ => if fe = 0 ∧ ty = 2048 then some (v, fb, -1) else some (0, [], 0)
     else some (0, [], 0)
    else some (0, [], 0)
   else some (0, [], 0)
  else some (0, [], 0)
 else some (0, [], 0)
def routF (k : Nat) (m1 m2 m3 m4 m5 m6 : Int) (b : List Int) : Option (Int × List Int × Int) :=
 if (1600 : Int) < (b.length : Int) then some (0, [], 3) else
 (lychref1_Eth.f b).bind fun ⟨x0, x1, x2, x3, x4, x5, _, _, _, _, _, _, ty, bd, e⟩ => if e = 0 ∧ (x0 == m1 && (x1 == m2 && (x2 == m3 && (x3 == m4 && (x4 == m5 && (x5 == m6)))))) = true ∧ ty = 2048 then
  (lychref1_Ip.f k bd).bind fun ⟨_, _, _, _, _, _, _, ds, _, _, e⟩ => if e = 0 then some (ds, bd, -1) else some (0, [], 0)
 else some (0, [], 0)
def ref22_Inside.R18.T : Bool × List (List Nat × List Nat) := (true, [([], []), ([], []), ([1], [1]), ([0, 0], [0]), ([2, 3, 0, 1, 2, 3], [2]), ([4, 0, 1, 2, 3, 4], [])])
theorem ref22_Inside.R18.tab : rtab .any (opsOf Try.f21 18) = ref22_Inside.R18.T := by kernel_rfl
theorem ref22_Inside.R18.bits : waitsOk ref22_Inside.R18.T.2 [0, 0, 2, 1, 15, 31] = true := by kernel_rfl
theorem ref22_Inside.calls (k : Nat) (a0_0 a0_1 a0_2 a0_3 a0_4 a0_5 a0_6 a0_7 a0_8 a0_9 a0_10 a0_11 a0_12 a0_13 a0_14 a0_15 a0_16 a0_17 a0_18 a0_19 a0_20 a0_21 a0_22 a0_23 a0_24 a0_25 a0_26 a0_27 : Int) (A0_28 : Option Addr) (n0_28 c0_28 : Nat) (A1 : Option Addr) (c1 : Nat) (l1 : List Int) (r1 : Int) (r2 : List Int) (r3 : Int) (w : World) (hr1 : Kd.C (Kd.int .u8) w A1 l1.length l1) (hc1 : l1.length ≤ c1) (h : rinsF k a0_0 a0_1 a0_2 a0_3 a0_4 a0_5 a0_6 l1 = some (r1, r2, r3)) :
  Calls Try.prog 21 #[.agg #[.int .u32 a0_0, .int .u8 a0_1, .int .u8 a0_2, .int .u8 a0_3, .int .u8 a0_4, .int .u8 a0_5, .int .u8 a0_6, .int .u8 a0_7, .int .u8 a0_8, .int .u8 a0_9, .int .u8 a0_10, .int .u8 a0_11, .int .u8 a0_12, .int .u8 a0_13, .int .u8 a0_14, .int .u8 a0_15, .int .u8 a0_16, .int .u8 a0_17, .int .u8 a0_18, .int .u8 a0_19, .int .u8 a0_20, .int .u8 a0_21, .int .u8 a0_22, .int .u8 a0_23, .int .u8 a0_24, .int .u8 a0_25, .int .u8 a0_26, .int .u32 a0_27, .slice A0_28 n0_28 c0_28], .slice A1 l1.length c1] w fun e w' => ∃ v0_ : Value, e = .returned (.tuple #[.int .u32 r1, v0_, .int .i64 r3]) ∧ Kd.R (Kd.int .u8) 5 w' w.heap.size (fun _ => True) v0_ r2 ∧ Below w.heap.size w w' := by
 have hu33 := Try.underlying33
 have hu29 := Try.underlying29
 have hu73 := Try.underlying73
 have hu83 := Try.underlying83
 have hu58 := Try.underlying58
 have HC := Aside0.mk hr1
 have HCC := Aside0.mk hc1
 have HB := Aside0.mk (Below.refl w.heap.size w)
 clear hr1 hc1
 have H : rinsF k a0_0 a0_1 a0_2 a0_3 a0_4 a0_5 a0_6 l1 = some (r1, r2, r3) := h
 clear h
 unfold rinsF at H
 obtain ⟨n, hn⟩ : ∃ n, n = l1.length := ⟨_, rfl⟩
 have HN := Aside0.mk hn
 rw [← hn] at H ⊢
 clear hn
 go_enter Try.func21, Try.ntmps21
 go_upto_region 1 with (((with_reducible refine gate_dst (N := 2) rfl ?_); refine box_event ?hg (N := 2) ?hd (cs := #[.int .u32 a0_0, .int .u8 a0_1, .int .u8 a0_2, .int .u8 a0_3, .int .u8 a0_4, .int .u8 a0_5, .int .u8 a0_6, .int .u8 a0_7, .int .u8 a0_8, .int .u8 a0_9, .int .u8 a0_10, .int .u8 a0_11, .int .u8 a0_12, .int .u8 a0_13, .int .u8 a0_14, .int .u8 a0_15, .int .u8 a0_16, .int .u8 a0_17, .int .u8 a0_18, .int .u8 a0_19, .int .u8 a0_20, .int .u8 a0_21, .int .u8 a0_22, .int .u8 a0_23, .int .u8 a0_24, .int .u8 a0_25, .int .u8 a0_26, .int .u32 a0_27, .slice A0_28 n0_28 c0_28]) (t := 33) ?hr ?_; (case hd => rfl); (case hg => rfl); (case hr => first | (go_simp; done) | (go_simp; rfl)); intro gp hg w1 hbox hb; have n0_ := Aside0.mk (below_step (bz HB) hb); have HQ := Aside0.mk hbox; clear HB ; have HB := n0_; clear n0_  hb hbox hg))
 have n_HC := Aside0.mk (Kd.C_below HC.out HB.out)
 clear HC
 have HC := n_HC
 clear n_HC
 by_cases c1 : (1600 : Int) < (n : Int)
 ·have c1b : decide ((1600 : Int) < (n : Int)) = true := decide_eq_true c1
  have c1c : decide (1600 < n) = true := decide_eq_true (by omega)
  rw [if_pos c1] at H
  simp only [Option.some.injEq, Prod.mk.injEq] at H
  obtain ⟨rfl, rfl, rfl⟩ := H
  (try dsimp only)
  go_wp2
  (try simp only [Exit.inBlock, Exit.then])
  go_ret3
  exact ⟨_, rfl, Kd.R_nil _ _ _ _ _, HB.out⟩
 ·have c1b : decide ((1600 : Int) < (n : Int)) = false := decide_eq_false c1
  have c1c : decide (1600 < n) = false := decide_eq_false (by omega)
  rw [if_neg c1] at H
  obtain ⟨⟨d0, d1, d2, d3, d4, d5, d6, d7, d8, d9, d10, d11, ty, bd, e⟩, he, H⟩ := bind_some_ H
  go_wp2_with fail
  clear c1 c1b c1c
  rw [HN.out]
  refine (lychref1_Eth.calls A1 c1 l1 d0 d1 d2 d3 d4 d5 d6 d7 d8 d9 d10 d11 ty bd e _ HC.out HCC.out he).mono ?_
  rintro ev w2 ⟨v_, rfl, ho, hb⟩
  obtain ⟨Ab, cb, rfl, hcb, hkb⟩ := Kd.R_reads ho
  have HKb := Aside0.mk hkb
  have HCb := Aside0.mk hcb
  clear ho hkb hcb he HC
  have hb_ := hb
  have n_HB := Aside0.mk (below_step HB.out hb_)
  have n_HQ := Aside0.mk (blk_below HQ.out hb_)
  clear HB HQ hb_
  have HB := n_HB
  have HQ := n_HQ
  clear n_HB n_HQ
  clear hb
  (try dsimp only)
  go_upto_region 4 with (((refine ev_skip_ rfl rfl (st_new_ rfl rfl rfl (by kernel_rfl) rfl (by simp [Value.oneCell'])) ?_)))
  obtain ⟨ge, hge⟩ : ∃ x_, x_ = w2.heap.size := ⟨_, rfl⟩
  have HXe : Aside0 ((w2.alloc (.cells #[.int .u8 d0, .int .u8 d1, .int .u8 d2, .int .u8 d3, .int .u8 d4, .int .u8 d5, .int .u8 d6, .int .u8 d7, .int .u8 d8, .int .u8 d9, .int .u8 d10, .int .u8 d11, .int .u16 ty, .slice Ab bd.length cb] 58)).heap[ge]? = some (.cells #[.int .u8 d0, .int .u8 d1, .int .u8 d2, .int .u8 d3, .int .u8 d4, .int .u8 d5, .int .u8 d6, .int .u8 d7, .int .u8 d8, .int .u8 d9, .int .u8 d10, .int .u8 d11, .int .u16 ty, .slice Ab bd.length cb] 58 (0, 0))) := ⟨by rw [hge]; exact blk_new' _ _⟩
  rw [← hge]
  clear hge
  have hb_ := below_alloc (Below.refl w2.heap.size w2) (.cells #[.int .u8 d0, .int .u8 d1, .int .u8 d2, .int .u8 d3, .int .u8 d4, .int .u8 d5, .int .u8 d6, .int .u8 d7, .int .u8 d8, .int .u8 d9, .int .u8 d10, .int .u8 d11, .int .u16 ty, .slice Ab bd.length cb] 58)
  have n_HB := Aside0.mk (below_step HB.out hb_)
  have n_HQ := Aside0.mk (blk_below HQ.out hb_)
  have n_HKb := Aside0.mk (Kd.C_below HKb.out hb_)
  clear HB HQ HKb hb_
  have HB := n_HB
  have HQ := n_HQ
  have HKb := n_HKb
  clear n_HB n_HQ n_HKb
  generalize (w2.alloc (.cells #[.int .u8 d0, .int .u8 d1, .int .u8 d2, .int .u8 d3, .int .u8 d4, .int .u8 d5, .int .u8 d6, .int .u8 d7, .int .u8 d8, .int .u8 d9, .int .u8 d10, .int .u8 d11, .int .u16 ty, .slice Ab bd.length cb] 58)) = w3 at HXe HB HQ HKb ⊢
  have ge0 := cz HXe.out 0 rfl
  have ge1 := cz HXe.out 1 rfl
  have ge2 := cz HXe.out 2 rfl
  have ge3 := cz HXe.out 3 rfl
  have ge4 := cz HXe.out 4 rfl
  have ge5 := cz HXe.out 5 rfl
  have ge12 := cz HXe.out 12 rfl
  have ge13 := cz HXe.out 13 rfl
  have gp1 := cz HQ.out 1 rfl
  have gp2 := cz HQ.out 2 rfl
  have gp3 := cz HQ.out 3 rfl
  have gp4 := cz HQ.out 4 rfl
  have gp5 := cz HQ.out 5 rfl
  have gp6 := cz HQ.out 6 rfl
  have hiff : ((d0 == a0_1 && (d1 == a0_2 && (d2 == a0_3 && (d3 == a0_4 && (d4 == a0_5 && (d5 == a0_6)))))) = true) ↔ (d0 = a0_1 ∧ d1 = a0_2 ∧ d2 = a0_3 ∧ d3 = a0_4 ∧ d4 = a0_5 ∧ d5 = a0_6) := by simp
  have HIFF := Aside0.mk hiff
  clear hiff
  by_cases ce : e = 0
  ·have ce1 : (e == 0) = true := beq_iff_eq.2 ce
   have ce2 : (e != 0) = false := by rw [bne, ce1]; rfl
   by_cases cq : (d0 == a0_1 && (d1 == a0_2 && (d2 == a0_3 && (d3 == a0_4 && (d4 == a0_5 && (d5 == a0_6)))))) = true
   ·have hnq2 : ∀ W : World, (binOp BinOp.neq 29 (.agg #[.int .u8 d0, .int .u8 d1, .int .u8 d2, .int .u8 d3, .int .u8 d4, .int .u8 d5]) (.agg #[.int .u8 a0_1, .int .u8 a0_2, .int .u8 a0_3, .int .u8 a0_4, .int .u8 a0_5, .int .u8 a0_6])).run Try.prog W = .ok (.bool false) W := fun W => by rw [neq6, cq]; rfl
    by_cases ct : ty = 2048
    ·have ct1 : (ty == 2048) = true := beq_iff_eq.2 ct
     have ct2 : (ty != 2048) = false := by rw [bne, ct1]; rfl
     rw [if_pos ⟨ce, cq, ct⟩] at H
     clear ce cq ct
     obtain ⟨⟨q1, q2, q3, q4, q5, q6, q7, q8, qo, qb, qe⟩, hq, H⟩ := bind_some_ H
     (try dsimp only)
     go_wp2_with fail
     clear ge0 ge1 ge2 ge3 ge4 ge5 ge12 gp1 gp2 gp3 gp4 gp5 gp6
     clear HXe
     refine (lychref1_Ip.calls k Ab cb bd q1 q2 q3 q4 q5 q6 q7 q8 qo qb qe _ HKb.out HCb.out hq).mono ?_
     rintro e w3 ⟨v8, v9, rfl, ho8, ho9, hb⟩
     obtain ⟨A8, c8, rfl, _, _⟩ := Kd.R_reads ho8
     obtain ⟨A9, c9, rfl, hc9, hk9⟩ := Kd.R_reads ho9
     have HK9 := Aside0.mk hk9
     have HC9 := Aside0.mk hc9
     clear ho8 ho9 HKb hk9 hc9 hq ge13
     have hb_ := hb
     have n_HB := Aside0.mk (below_step HB.out hb_)
     have n_HQ := Aside0.mk (blk_below HQ.out hb_)
     clear HB HQ hb_
     have HB := n_HB
     have HQ := n_HQ
     clear n_HB n_HQ
     clear hb
     (try dsimp only)
     go_upto_region 7 with (((refine ev_skip_ rfl rfl (st_new_ rfl rfl rfl (by kernel_rfl) rfl (by simp [Value.oneCell'])) ?_)))
     obtain ⟨gq, hgq⟩ : ∃ x_, x_ = w3.heap.size := ⟨_, rfl⟩
     have HXq : Aside0 ((w3.alloc (.cells #[.int .u8 q1, .int .u8 q2, .int .u8 q3, .int .u16 q4, .int .u8 q5, .int .u16 q6, .int .u32 q7, .int .u32 q8, .slice A8 qo.length c8, .slice A9 qb.length c9] 73)).heap[gq]? = some (.cells #[.int .u8 q1, .int .u8 q2, .int .u8 q3, .int .u16 q4, .int .u8 q5, .int .u16 q6, .int .u32 q7, .int .u32 q8, .slice A8 qo.length c8, .slice A9 qb.length c9] 73 (0, 0))) := ⟨by rw [hgq]; exact blk_new' _ _⟩
     rw [← hgq]
     clear hgq
     have hb_ := below_alloc (Below.refl w3.heap.size w3) (.cells #[.int .u8 q1, .int .u8 q2, .int .u8 q3, .int .u16 q4, .int .u8 q5, .int .u16 q6, .int .u32 q7, .int .u32 q8, .slice A8 qo.length c8, .slice A9 qb.length c9] 73)
     have n_HB := Aside0.mk (below_step HB.out hb_)
     have n_HQ := Aside0.mk (blk_below HQ.out hb_)
     have n_HK9 := Aside0.mk (Kd.C_below HK9.out hb_)
     clear HB HQ HK9 hb_
     have HB := n_HB
     have HQ := n_HQ
     have HK9 := n_HK9
     clear n_HB n_HQ n_HK9
     generalize (w3.alloc (.cells #[.int .u8 q1, .int .u8 q2, .int .u8 q3, .int .u16 q4, .int .u8 q5, .int .u16 q6, .int .u32 q7, .int .u32 q8, .slice A8 qo.length c8, .slice A9 qb.length c9] 73)) = w4 at HXq HB HQ HK9 ⊢
     have gq2 := cz HXq.out 2 rfl
     have gq4 := cz HXq.out 4 rfl
     have gq5 := cz HXq.out 5 rfl
     have gq6 := cz HXq.out 6 rfl
     have gq7 := cz HXq.out 7 rfl
     have gq9 := cz HXq.out 9 rfl
     have gp0 := cz HQ.out 0 rfl
     clear HQ
     by_cases cqe : qe = 0
     ·have cqe1 : (qe == 0) = true := beq_iff_eq.2 cqe
      have cqe2 : (qe != 0) = false := by rw [bne, cqe1]; rfl
      by_cases cqd : q8 = a0_0
      ·have cqd1 : (q8 == a0_0) = true := beq_iff_eq.2 cqd
       have cqd2 : (q8 != a0_0) = false := by rw [bne, cqd1]; rfl
       by_cases cqp : q3 = 17
       ·have cqp1 : (q3 == 17) = true := beq_iff_eq.2 cqp
        have cqp2 : (q3 != 17) = false := by rw [bne, cqp1]; rfl
        by_cases cqf : Go.bits .and .u8 q5 1 = 0
        ·have cqf1 : (Go.bits .and .u8 q5 1 == 0) = true := beq_iff_eq.2 cqf
         have cqf2 : (Go.bits .and .u8 q5 1 != 0) = false := by rw [bne, cqf1]; rfl
         by_cases cqo : q6 = 0
         ·have cqo1 : (q6 == 0) = true := beq_iff_eq.2 cqo
          have cqo2 : (q6 != 0) = false := by rw [bne, cqo1]; rfl
          rw [if_pos ⟨cqe, cqd, cqp, cqf, cqo⟩] at H
          clear cqe cqd cqp cqf cqo
          obtain ⟨⟨u1, u2, u3, ub, ue⟩, hu, H⟩ := bind_some_ H
          (try dsimp only)
          go_wp2_with fail
          refine (lychref1_Udp.calls A9 c9 qb u1 u2 u3 ub ue _ HK9.out HC9.out hu).mono ?_
          rintro e w4 ⟨v_, rfl, ho, hb⟩
          obtain ⟨A3, c3, rfl, hcu, hku⟩ := Kd.R_reads ho
          have HKu := Aside0.mk hku
          have HCu := Aside0.mk hcu
          clear ho HK9 hku hcu hu
          have hb_ := hb
          have n_HB := Aside0.mk (below_step HB.out hb_)
          have n_HXq := Aside0.mk (blk_below HXq.out hb_)
          clear HB HXq hb_
          have HB := n_HB
          have HXq := n_HXq
          clear n_HB n_HXq
          clear hb gq2 gq4 gq5 gq6 gq7 gq9 gp0
          (try dsimp only)
          go_upto_region 10 with (((refine ev_skip_ rfl rfl (st_new_ rfl rfl rfl (by kernel_rfl) rfl (by simp [Value.oneCell'])) ?_)))
          obtain ⟨gu, hgu⟩ : ∃ x_, x_ = w4.heap.size := ⟨_, rfl⟩
          have HXu : Aside0 ((w4.alloc (.cells #[.int .u16 u1, .int .u16 u2, .int .u16 u3, .slice A3 ub.length c3] 83)).heap[gu]? = some (.cells #[.int .u16 u1, .int .u16 u2, .int .u16 u3, .slice A3 ub.length c3] 83 (0, 0))) := ⟨by rw [hgu]; exact blk_new' _ _⟩
          rw [← hgu]
          clear hgu
          have hb_ := below_alloc (Below.refl w4.heap.size w4) (.cells #[.int .u16 u1, .int .u16 u2, .int .u16 u3, .slice A3 ub.length c3] 83)
          have n_HB := Aside0.mk (below_step HB.out hb_)
          have n_HKu := Aside0.mk (Kd.C_below HKu.out hb_)
          have n_HXq := Aside0.mk (blk_below HXq.out hb_)
          clear HB HKu HXq hb_
          have HB := n_HB
          have HKu := n_HKu
          have HXq := n_HXq
          clear n_HB n_HKu n_HXq
          generalize (w4.alloc (.cells #[.int .u16 u1, .int .u16 u2, .int .u16 u3, .slice A3 ub.length c3] 83)) = w5 at HXu HB HKu HXq ⊢
          have gu0 := cz HXu.out 0 rfl
          have gu1 := cz HXu.out 1 rfl
          have gu2 := cz HXu.out 2 rfl
          have gu3 := cz HXu.out 3 rfl
          have gq6 := cz HXq.out 6 rfl
          have gq7 := cz HXq.out 7 rfl
          by_cases cue : ue = 0
          ·have cue1 : (ue == 0) = true := beq_iff_eq.2 cue
           have cue2 : (ue != 0) = false := by rw [bne, cue1]; rfl
           by_cases cud : u2 = 4789
           ·have cud1 : (u2 == 4789) = true := beq_iff_eq.2 cud
            have cud2 : (u2 != 4789) = false := by rw [bne, cud1]; rfl
            rw [if_pos ⟨cue, cud⟩] at H
            clear cue cud
            obtain ⟨rt, hr, H⟩ := bind_some_ H
            (try dsimp only)
            go_wp2_with fail
            refine (lychref1_UdpRight.calls k q7 q8 u1 u2 u3 A3 c3 ub rt _ HKu.out HCu.out hr).mono ?_
            rintro e w6 ⟨rfl, hb⟩
            clear hr
            have hb_ := hb
            have n_HB := Aside0.mk (below_step HB.out hb_)
            have n_HKu := Aside0.mk (Kd.C_below HKu.out hb_)
            have n_HXu := Aside0.mk (blk_below HXu.out hb_)
            clear HB HKu HXu hb_
            have HB := n_HB
            have HKu := n_HKu
            have HXu := n_HXu
            clear n_HB n_HKu n_HXu
            have gu3 := cz HXu.out 3 rfl
            clear hb HXu
            cases rt with
            | false =>
             rw [if_neg (by decide)] at H
             simp only [Option.some.injEq, Prod.mk.injEq] at H
             obtain ⟨rfl, rfl, rfl⟩ := H
             (try dsimp only)
             go_wp2
             (try simp only [Exit.inBlock, Exit.then])
             go_ret3
             exact ⟨_, rfl, Kd.R_nil _ _ _ _ _, HB.out⟩
            | true =>
             rw [if_pos rfl] at H
             obtain ⟨⟨vn, vb, ve⟩, hv, H⟩ := bind_some_ H
             (try dsimp only)
             go_wp2_with fail
             refine (lychref1_Vxlan.calls A3 c3 ub vn vb ve _ HKu.out HCu.out hv).mono ?_
             rintro e w7 ⟨v_, rfl, ho, hb⟩
             obtain ⟨Av, cv, rfl, hcv, hkv⟩ := Kd.R_reads ho
             have HKv := Aside0.mk hkv
             have HCv := Aside0.mk hcv
             clear ho HKu hkv hcv hv
             have hb_ := hb
             have n_HB := Aside0.mk (below_step HB.out hb_)
             clear HB hb_
             have HB := n_HB
             clear n_HB
             clear hb
             (try dsimp only)
             by_cases cve : ve = 0
             ·have cve1 : (ve == 0) = true := beq_iff_eq.2 cve
              have cve2 : (ve != 0) = false := by rw [bne, cve1]; rfl
              rw [if_pos cve] at H
              clear cve
              obtain ⟨⟨f0, f1, f2, f3, f4, f5, f6, f7, f8, f9, f10, f11, ty2, fb, fe⟩, hf, H⟩ := bind_some_ H
              (try dsimp only)
              go_wp2_with fail
              refine (lychref1_Eth.calls Av cv vb f0 f1 f2 f3 f4 f5 f6 f7 f8 f9 f10 f11 ty2 fb fe _ HKv.out HCv.out hf).mono ?_
              rintro e w8 ⟨v_, rfl, ho, hb⟩
              obtain ⟨Af, cf, rfl, _, _⟩ := Kd.R_reads ho
              have HR := Aside0.mk (Kd.R_lower ho (below_size HB.out))
              clear ho HKv hf
              have hb_ := hb
              have n_HB := Aside0.mk (below_step HB.out hb_)
              clear HB hb_
              have HB := n_HB
              clear n_HB
              clear hb
              (try dsimp only)
              go_upto_region 16 with (((refine ev_skip_ rfl rfl (st_new_ rfl rfl rfl (by kernel_rfl) rfl (by simp [Value.oneCell'])) ?_)))
              obtain ⟨gf, hgf⟩ : ∃ x_, x_ = w8.heap.size := ⟨_, rfl⟩
              have HXf : Aside0 ((w8.alloc (.cells #[.int .u8 f0, .int .u8 f1, .int .u8 f2, .int .u8 f3, .int .u8 f4, .int .u8 f5, .int .u8 f6, .int .u8 f7, .int .u8 f8, .int .u8 f9, .int .u8 f10, .int .u8 f11, .int .u16 ty2, .slice Af fb.length cf] 58)).heap[gf]? = some (.cells #[.int .u8 f0, .int .u8 f1, .int .u8 f2, .int .u8 f3, .int .u8 f4, .int .u8 f5, .int .u8 f6, .int .u8 f7, .int .u8 f8, .int .u8 f9, .int .u8 f10, .int .u8 f11, .int .u16 ty2, .slice Af fb.length cf] 58 (0, 0))) := ⟨by rw [hgf]; exact blk_new' _ _⟩
              rw [← hgf]
              clear hgf
              have hb_ := below_alloc (Below.refl w8.heap.size w8) (.cells #[.int .u8 f0, .int .u8 f1, .int .u8 f2, .int .u8 f3, .int .u8 f4, .int .u8 f5, .int .u8 f6, .int .u8 f7, .int .u8 f8, .int .u8 f9, .int .u8 f10, .int .u8 f11, .int .u16 ty2, .slice Af fb.length cf] 58)
              have n_HB := Aside0.mk (below_step HB.out hb_)
              have n_HR := Aside0.mk (Kd.R_below HR.out hb_)
              clear HB HR hb_
              have HB := n_HB
              have HR := n_HR
              clear n_HB n_HR
              generalize (w8.alloc (.cells #[.int .u8 f0, .int .u8 f1, .int .u8 f2, .int .u8 f3, .int .u8 f4, .int .u8 f5, .int .u8 f6, .int .u8 f7, .int .u8 f8, .int .u8 f9, .int .u8 f10, .int .u8 f11, .int .u16 ty2, .slice Af fb.length cf] 58)) = w9 at HXf HB HR ⊢
              have gf12 := cz HXf.out 12 rfl
              have gf13 := cz HXf.out 13 rfl
              by_cases cfe : fe = 0
              ·have cfe1 : (fe == 0) = true := beq_iff_eq.2 cfe
               have cfe2 : (fe != 0) = false := by rw [bne, cfe1]; rfl
               by_cases cft : ty2 = 2048
               ·have cft1 : (ty2 == 2048) = true := beq_iff_eq.2 cft
                have cft2 : (ty2 != 2048) = false := by rw [bne, cft1]; rfl
                rw [if_pos ⟨cfe, cft⟩] at H
                clear cfe cft
                simp only [Option.some.injEq, Prod.mk.injEq] at H
                obtain ⟨rfl, rfl, rfl⟩ := H
                (try dsimp only)
                go_upto_region 18 with (fail)
                refine start_ (n := 6) (S := fun w' => w'.cell? ⟨gf, 13, none⟩ = some (.slice Af fb.length cf)) (ds := []) #[false, false, false, false, false, false] (by kernel_rfl) rfl rfl (cz HXf.out 13 rfl) (fun hHeld => ?_)
                refine with_tabW ref22_Inside.R18.tab ref22_Inside.R18.bits (fun HT_ HW_ => ?_)
                have hb_ := below_drew1 (Below.refl w9.heap.size w9)
                have n_HXf := Aside0.mk (blk_below HXf.out hb_)
                have n_HB := Aside0.mk (below_step HB.out hb_)
                have n_HR := Aside0.mk (Kd.R_below HR.out hb_)
                clear HXf HB HR hb_
                have HXf := n_HXf
                have HB := n_HB
                have HR := n_HR
                clear n_HXf n_HB n_HR
                generalize w9.drew = w9 at HXf HB HR hHeld ⊢
                refine pz 0 110 HT_ ?_
                refine pz 1 111 HT_ ?_
                refine pz 3 4 HT_ ?_
                refine tz 2 112 HT_ HW_ hHeld ?_
                refine pz 4 5 HT_ ?_
                refine pz 5 6 HT_ ?_
                refine dz HT_ ?_
                clear HT_ HW_ hHeld
                go_wp2
                (try simp only [Exit.inBlock, Exit.then])
                go_ret3
                exact ⟨_, rfl, HR.out, HB.out⟩
               ·have cft1 : (ty2 == 2048) = false := beq_eq_false_iff_ne.2 cft
                have cft2 : (ty2 != 2048) = true := bne_iff_ne.2 cft
                rw [if_neg (fun hh => cft hh.2)] at H
                clear cfe cft
                simp only [Option.some.injEq, Prod.mk.injEq] at H
                obtain ⟨rfl, rfl, rfl⟩ := H
                (try dsimp only)
                go_wp2
                (try simp only [Exit.inBlock, Exit.then])
                go_ret3
                exact ⟨_, rfl, Kd.R_nil _ _ _ _ _, HB.out⟩
              ·have cfe1 : (fe == 0) = false := beq_eq_false_iff_ne.2 cfe
               have cfe2 : (fe != 0) = true := bne_iff_ne.2 cfe
               rw [if_neg (fun hh => cfe hh.1)] at H
               clear cfe
               simp only [Option.some.injEq, Prod.mk.injEq] at H
               obtain ⟨rfl, rfl, rfl⟩ := H
               (try dsimp only)
               go_wp2
               (try simp only [Exit.inBlock, Exit.then])
               go_ret3
               exact ⟨_, rfl, Kd.R_nil _ _ _ _ _, HB.out⟩
             ·have cve1 : (ve == 0) = false := beq_eq_false_iff_ne.2 cve
              have cve2 : (ve != 0) = true := bne_iff_ne.2 cve
              rw [if_neg (fun hh => cve hh)] at H
              clear cve
              simp only [Option.some.injEq, Prod.mk.injEq] at H
              obtain ⟨rfl, rfl, rfl⟩ := H
              (try dsimp only)
              go_wp2
              (try simp only [Exit.inBlock, Exit.then])
              go_ret3
              exact ⟨_, rfl, Kd.R_nil _ _ _ _ _, HB.out⟩
           ·have cud1 : (u2 == 4789) = false := beq_eq_false_iff_ne.2 cud
            have cud2 : (u2 != 4789) = true := bne_iff_ne.2 cud
            rw [if_neg (fun hh => cud hh.2)] at H
            clear cue cud
            simp only [Option.some.injEq, Prod.mk.injEq] at H
            obtain ⟨rfl, rfl, rfl⟩ := H
            (try dsimp only)
            go_wp2
            (try simp only [Exit.inBlock, Exit.then])
            go_ret3
            exact ⟨_, rfl, Kd.R_nil _ _ _ _ _, HB.out⟩
          ·have cue1 : (ue == 0) = false := beq_eq_false_iff_ne.2 cue
           have cue2 : (ue != 0) = true := bne_iff_ne.2 cue
           rw [if_neg (fun hh => cue hh.1)] at H
           clear cue
           simp only [Option.some.injEq, Prod.mk.injEq] at H
           obtain ⟨rfl, rfl, rfl⟩ := H
           (try dsimp only)
           go_wp2
           (try simp only [Exit.inBlock, Exit.then])
           go_ret3
           exact ⟨_, rfl, Kd.R_nil _ _ _ _ _, HB.out⟩
         ·have cqo1 : (q6 == 0) = false := beq_eq_false_iff_ne.2 cqo
          have cqo2 : (q6 != 0) = true := bne_iff_ne.2 cqo
          rw [if_neg (fun hh => cqo hh.2.2.2.2)] at H
          clear cqe cqd cqp cqf cqo
          simp only [Option.some.injEq, Prod.mk.injEq] at H
          obtain ⟨rfl, rfl, rfl⟩ := H
          (try dsimp only)
          go_wp2
          (try simp only [Exit.inBlock, Exit.then])
          go_ret3
          exact ⟨_, rfl, Kd.R_nil _ _ _ _ _, HB.out⟩
        ·have cqf1 : (Go.bits .and .u8 q5 1 == 0) = false := beq_eq_false_iff_ne.2 cqf
         have cqf2 : (Go.bits .and .u8 q5 1 != 0) = true := bne_iff_ne.2 cqf
         rw [if_neg (fun hh => cqf hh.2.2.2.1)] at H
         clear cqe cqd cqp cqf
         simp only [Option.some.injEq, Prod.mk.injEq] at H
         obtain ⟨rfl, rfl, rfl⟩ := H
         (try dsimp only)
         go_wp2
         (try simp only [Exit.inBlock, Exit.then])
         go_ret3
         exact ⟨_, rfl, Kd.R_nil _ _ _ _ _, HB.out⟩
       ·have cqp1 : (q3 == 17) = false := beq_eq_false_iff_ne.2 cqp
        have cqp2 : (q3 != 17) = true := bne_iff_ne.2 cqp
        rw [if_neg (fun hh => cqp hh.2.2.1)] at H
        clear cqe cqd cqp
        simp only [Option.some.injEq, Prod.mk.injEq] at H
        obtain ⟨rfl, rfl, rfl⟩ := H
        (try dsimp only)
        go_wp2
        (try simp only [Exit.inBlock, Exit.then])
        go_ret3
        exact ⟨_, rfl, Kd.R_nil _ _ _ _ _, HB.out⟩
      ·have cqd1 : (q8 == a0_0) = false := beq_eq_false_iff_ne.2 cqd
       have cqd2 : (q8 != a0_0) = true := bne_iff_ne.2 cqd
       rw [if_neg (fun hh => cqd hh.2.1)] at H
       clear cqe cqd
       simp only [Option.some.injEq, Prod.mk.injEq] at H
       obtain ⟨rfl, rfl, rfl⟩ := H
       (try dsimp only)
       go_wp2
       (try simp only [Exit.inBlock, Exit.then])
       go_ret3
       exact ⟨_, rfl, Kd.R_nil _ _ _ _ _, HB.out⟩
     ·have cqe1 : (qe == 0) = false := beq_eq_false_iff_ne.2 cqe
      have cqe2 : (qe != 0) = true := bne_iff_ne.2 cqe
      rw [if_neg (fun hh => cqe hh.1)] at H
      clear cqe
      simp only [Option.some.injEq, Prod.mk.injEq] at H
      obtain ⟨rfl, rfl, rfl⟩ := H
      (try dsimp only)
      go_wp2
      (try simp only [Exit.inBlock, Exit.then])
      go_ret3
      exact ⟨_, rfl, Kd.R_nil _ _ _ _ _, HB.out⟩
    ·have ct1 : (ty == 2048) = false := beq_eq_false_iff_ne.2 ct
     have ct2 : (ty != 2048) = true := bne_iff_ne.2 ct
     rw [if_neg (fun hh => ct hh.2.2)] at H
     clear ce cq ct
     simp only [Option.some.injEq, Prod.mk.injEq] at H
     obtain ⟨rfl, rfl, rfl⟩ := H
     (try dsimp only)
     go_wp2
     (try simp only [Exit.inBlock, Exit.then])
     go_ret3
     exact ⟨_, rfl, Kd.R_nil _ _ _ _ _, HB.out⟩
   ·have hnq2 : ∀ W : World, (binOp BinOp.neq 29 (.agg #[.int .u8 d0, .int .u8 d1, .int .u8 d2, .int .u8 d3, .int .u8 d4, .int .u8 d5]) (.agg #[.int .u8 a0_1, .int .u8 a0_2, .int .u8 a0_3, .int .u8 a0_4, .int .u8 a0_5, .int .u8 a0_6])).run Try.prog W = .ok (.bool true) W := fun W => by rw [neq6, Bool.eq_false_iff.2 cq]; rfl
    rw [if_neg (fun hh => cq hh.2.1)] at H
    clear ce cq
    simp only [Option.some.injEq, Prod.mk.injEq] at H
    obtain ⟨rfl, rfl, rfl⟩ := H
    (try dsimp only)
    go_wp2
    (try simp only [Exit.inBlock, Exit.then])
    go_ret3
    exact ⟨_, rfl, Kd.R_nil _ _ _ _ _, HB.out⟩
  ·have ce1 : (e == 0) = false := beq_eq_false_iff_ne.2 ce
   have ce2 : (e != 0) = true := bne_iff_ne.2 ce
   rw [if_neg (fun hh => ce hh.1)] at H
   clear ce
   simp only [Option.some.injEq, Prod.mk.injEq] at H
   obtain ⟨rfl, rfl, rfl⟩ := H
   (try dsimp only)
   go_wp2
   (try simp only [Exit.inBlock, Exit.then])
   go_ret3
   exact ⟨_, rfl, Kd.R_nil _ _ _ _ _, HB.out⟩
def ref22_Outside.R9.T : Bool × List (List Nat × List Nat) := (true, [([], []), ([0], [0]), ([], []), ([2], [2]), ([1, 0, 1], [1]), ([3, 4, 0, 1, 2, 3, 4], [3]), ([5, 0, 1, 2, 3, 4, 5], [])])
theorem ref22_Outside.R9.tab : rtab .any (opsOf Try.f24 9) = ref22_Outside.R9.T := by kernel_rfl
theorem ref22_Outside.R9.bits : waitsOk ref22_Outside.R9.T.2 [0, 1, 0, 4, 3, 31, 63] = true := by kernel_rfl
theorem ref22_Outside.calls (k : Nat) (a0_0 a0_1 a0_2 a0_3 a0_4 a0_5 a0_6 a0_7 a0_8 a0_9 a0_10 a0_11 a0_12 a0_13 a0_14 a0_15 a0_16 a0_17 a0_18 a0_19 a0_20 a0_21 a0_22 a0_23 a0_24 a0_25 a0_26 a0_27 : Int) (A0_28 : Option Addr) (n0_28 c0_28 : Nat) (A1 : Option Addr) (c1 : Nat) (l1 : List Int) (r1 : Int) (r2 : List Int) (r3 : Int) (w : World) (hr1 : Kd.C (Kd.int .u8) w A1 l1.length l1) (hc1 : l1.length ≤ c1) (h : routF k a0_7 a0_8 a0_9 a0_10 a0_11 a0_12 l1 = some (r1, r2, r3)) :
  Calls Try.prog 24 #[.agg #[.int .u32 a0_0, .int .u8 a0_1, .int .u8 a0_2, .int .u8 a0_3, .int .u8 a0_4, .int .u8 a0_5, .int .u8 a0_6, .int .u8 a0_7, .int .u8 a0_8, .int .u8 a0_9, .int .u8 a0_10, .int .u8 a0_11, .int .u8 a0_12, .int .u8 a0_13, .int .u8 a0_14, .int .u8 a0_15, .int .u8 a0_16, .int .u8 a0_17, .int .u8 a0_18, .int .u8 a0_19, .int .u8 a0_20, .int .u8 a0_21, .int .u8 a0_22, .int .u8 a0_23, .int .u8 a0_24, .int .u8 a0_25, .int .u8 a0_26, .int .u32 a0_27, .slice A0_28 n0_28 c0_28], .slice A1 l1.length c1] w fun e w' => ∃ v0_ : Value, e = .returned (.tuple #[.int .u32 r1, v0_, .int .i64 r3]) ∧ Kd.R (Kd.int .u8) 5 w' w.heap.size (fun _ => True) v0_ r2 ∧ Below w.heap.size w w' := by
 have hu33 := Try.underlying33
 have hu29 := Try.underlying29
 have hu73 := Try.underlying73
 have hu83 := Try.underlying83
 have hu58 := Try.underlying58
 have HC := Aside0.mk hr1
 have HCC := Aside0.mk hc1
 have HB := Aside0.mk (Below.refl w.heap.size w)
 clear hr1 hc1
 have H : routF k a0_7 a0_8 a0_9 a0_10 a0_11 a0_12 l1 = some (r1, r2, r3) := h
 clear h
 unfold routF at H
 obtain ⟨n, hn⟩ : ∃ n, n = l1.length := ⟨_, rfl⟩
 have HN := Aside0.mk hn
 rw [← hn] at H ⊢
 clear hn
 go_enter Try.func24, Try.ntmps24
 go_upto_region 1 with (((with_reducible refine gate_dst (N := 2) rfl ?_); refine box_event ?hg (N := 2) ?hd (cs := #[.int .u32 a0_0, .int .u8 a0_1, .int .u8 a0_2, .int .u8 a0_3, .int .u8 a0_4, .int .u8 a0_5, .int .u8 a0_6, .int .u8 a0_7, .int .u8 a0_8, .int .u8 a0_9, .int .u8 a0_10, .int .u8 a0_11, .int .u8 a0_12, .int .u8 a0_13, .int .u8 a0_14, .int .u8 a0_15, .int .u8 a0_16, .int .u8 a0_17, .int .u8 a0_18, .int .u8 a0_19, .int .u8 a0_20, .int .u8 a0_21, .int .u8 a0_22, .int .u8 a0_23, .int .u8 a0_24, .int .u8 a0_25, .int .u8 a0_26, .int .u32 a0_27, .slice A0_28 n0_28 c0_28]) (t := 33) ?hr ?_; (case hd => rfl); (case hg => rfl); (case hr => first | (go_simp; done) | (go_simp; rfl)); intro gp hg w1 hbox hb; have n0_ := Aside0.mk (below_step (bz HB) hb); have HQ := Aside0.mk hbox; clear HB ; have HB := n0_; clear n0_  hb hbox hg))
 have n_HC := Aside0.mk (Kd.C_below HC.out HB.out)
 clear HC
 have HC := n_HC
 clear n_HC
 by_cases c1 : (1600 : Int) < (n : Int)
 ·have c1b : decide ((1600 : Int) < (n : Int)) = true := decide_eq_true c1
  have c1c : decide (1600 < n) = true := decide_eq_true (by omega)
  rw [if_pos c1] at H
  simp only [Option.some.injEq, Prod.mk.injEq] at H
  obtain ⟨rfl, rfl, rfl⟩ := H
  (try dsimp only)
  go_wp2
  (try simp only [Exit.inBlock, Exit.then])
  go_ret3
  exact ⟨_, rfl, Kd.R_nil _ _ _ _ _, HB.out⟩
 ·have c1b : decide ((1600 : Int) < (n : Int)) = false := decide_eq_false c1
  have c1c : decide (1600 < n) = false := decide_eq_false (by omega)
  rw [if_neg c1] at H
  obtain ⟨⟨d0, d1, d2, d3, d4, d5, d6, d7, d8, d9, d10, d11, ty, bd, e⟩, he, H⟩ := bind_some_ H
  go_wp2_with fail
  clear c1 c1b c1c
  rw [HN.out]
  refine (lychref1_Eth.calls A1 c1 l1 d0 d1 d2 d3 d4 d5 d6 d7 d8 d9 d10 d11 ty bd e _ HC.out HCC.out he).mono ?_
  rintro ev w2 ⟨v_, rfl, ho, hb⟩
  have HR := Aside0.mk (Kd.R_lower ho (below_size HB.out))
  obtain ⟨Ab, cb, rfl, hcb, hkb⟩ := Kd.R_reads ho
  have HKb := Aside0.mk hkb
  have HCb := Aside0.mk hcb
  clear ho hkb hcb he HC
  have hb_ := hb
  have n_HB := Aside0.mk (below_step HB.out hb_)
  have n_HQ := Aside0.mk (blk_below HQ.out hb_)
  clear HB HQ hb_
  have HB := n_HB
  have HQ := n_HQ
  clear n_HB n_HQ
  clear hb
  (try dsimp only)
  go_upto_region 4 with (((refine ev_skip_ rfl rfl (st_new_ rfl rfl rfl (by kernel_rfl) rfl (by simp [Value.oneCell'])) ?_)))
  obtain ⟨ge, hge⟩ : ∃ x_, x_ = w2.heap.size := ⟨_, rfl⟩
  have HXe : Aside0 ((w2.alloc (.cells #[.int .u8 d0, .int .u8 d1, .int .u8 d2, .int .u8 d3, .int .u8 d4, .int .u8 d5, .int .u8 d6, .int .u8 d7, .int .u8 d8, .int .u8 d9, .int .u8 d10, .int .u8 d11, .int .u16 ty, .slice Ab bd.length cb] 58)).heap[ge]? = some (.cells #[.int .u8 d0, .int .u8 d1, .int .u8 d2, .int .u8 d3, .int .u8 d4, .int .u8 d5, .int .u8 d6, .int .u8 d7, .int .u8 d8, .int .u8 d9, .int .u8 d10, .int .u8 d11, .int .u16 ty, .slice Ab bd.length cb] 58 (0, 0))) := ⟨by rw [hge]; exact blk_new' _ _⟩
  rw [← hge]
  clear hge
  have hb_ := below_alloc (Below.refl w2.heap.size w2) (.cells #[.int .u8 d0, .int .u8 d1, .int .u8 d2, .int .u8 d3, .int .u8 d4, .int .u8 d5, .int .u8 d6, .int .u8 d7, .int .u8 d8, .int .u8 d9, .int .u8 d10, .int .u8 d11, .int .u16 ty, .slice Ab bd.length cb] 58)
  have n_HB := Aside0.mk (below_step HB.out hb_)
  have n_HQ := Aside0.mk (blk_below HQ.out hb_)
  have n_HR := Aside0.mk (Kd.R_below HR.out hb_)
  have n_HKb := Aside0.mk (Kd.C_below HKb.out hb_)
  clear HB HQ HR HKb hb_
  have HB := n_HB
  have HQ := n_HQ
  have HR := n_HR
  have HKb := n_HKb
  clear n_HB n_HQ n_HR n_HKb
  generalize (w2.alloc (.cells #[.int .u8 d0, .int .u8 d1, .int .u8 d2, .int .u8 d3, .int .u8 d4, .int .u8 d5, .int .u8 d6, .int .u8 d7, .int .u8 d8, .int .u8 d9, .int .u8 d10, .int .u8 d11, .int .u16 ty, .slice Ab bd.length cb] 58)) = w3 at HXe HB HQ HR HKb ⊢
  have ge0 := cz HXe.out 0 rfl
  have ge1 := cz HXe.out 1 rfl
  have ge2 := cz HXe.out 2 rfl
  have ge3 := cz HXe.out 3 rfl
  have ge4 := cz HXe.out 4 rfl
  have ge5 := cz HXe.out 5 rfl
  have ge12 := cz HXe.out 12 rfl
  have ge13 := cz HXe.out 13 rfl
  have gp7 := cz HQ.out 7 rfl
  have gp8 := cz HQ.out 8 rfl
  have gp9 := cz HQ.out 9 rfl
  have gp10 := cz HQ.out 10 rfl
  have gp11 := cz HQ.out 11 rfl
  have gp12 := cz HQ.out 12 rfl
  have hiff : ((d0 == a0_7 && (d1 == a0_8 && (d2 == a0_9 && (d3 == a0_10 && (d4 == a0_11 && (d5 == a0_12)))))) = true) ↔ (d0 = a0_7 ∧ d1 = a0_8 ∧ d2 = a0_9 ∧ d3 = a0_10 ∧ d4 = a0_11 ∧ d5 = a0_12) := by simp
  have HIFF := Aside0.mk hiff
  clear hiff
  by_cases ce : e = 0
  ·have ce1 : (e == 0) = true := beq_iff_eq.2 ce
   have ce2 : (e != 0) = false := by rw [bne, ce1]; rfl
   by_cases cq : (d0 == a0_7 && (d1 == a0_8 && (d2 == a0_9 && (d3 == a0_10 && (d4 == a0_11 && (d5 == a0_12)))))) = true
   ·have hnq2 : ∀ W : World, (binOp BinOp.neq 29 (.agg #[.int .u8 d0, .int .u8 d1, .int .u8 d2, .int .u8 d3, .int .u8 d4, .int .u8 d5]) (.agg #[.int .u8 a0_7, .int .u8 a0_8, .int .u8 a0_9, .int .u8 a0_10, .int .u8 a0_11, .int .u8 a0_12])).run Try.prog W = .ok (.bool false) W := fun W => by rw [neq6, cq]; rfl
    by_cases ct : ty = 2048
    ·have ct1 : (ty == 2048) = true := beq_iff_eq.2 ct
     have ct2 : (ty != 2048) = false := by rw [bne, ct1]; rfl
     rw [if_pos ⟨ce, cq, ct⟩] at H
     clear ce cq ct
     obtain ⟨⟨q1, q2, q3, q4, q5, q6, q7, q8, qo, qb, qe⟩, hq, H⟩ := bind_some_ H
     (try dsimp only)
     go_wp2_with fail
     clear ge0 ge1 ge2 ge3 ge4 ge5 ge12 gp7 gp8 gp9 gp10 gp11 gp12
     clear HQ
     refine (lychref1_Ip.calls k Ab cb bd q1 q2 q3 q4 q5 q6 q7 q8 qo qb qe _ HKb.out HCb.out hq).mono ?_
     rintro e w3 ⟨v8, v9, rfl, ho8, ho9, hb⟩
     obtain ⟨A8, c8, rfl, _, _⟩ := Kd.R_reads ho8
     obtain ⟨A9, c9, rfl, _, _⟩ := Kd.R_reads ho9
     clear ho8 ho9 HKb hq ge13
     have hb_ := hb
     have n_HB := Aside0.mk (below_step HB.out hb_)
     have n_HR := Aside0.mk (Kd.R_below HR.out hb_)
     have n_HXe := Aside0.mk (blk_below HXe.out hb_)
     clear HB HR HXe hb_
     have HB := n_HB
     have HR := n_HR
     have HXe := n_HXe
     clear n_HB n_HR n_HXe
     clear hb
     (try dsimp only)
     go_upto_region 7 with (((refine ev_skip_ rfl rfl (st_new_ rfl rfl rfl (by kernel_rfl) rfl (by simp [Value.oneCell'])) ?_)))
     obtain ⟨gq, hgq⟩ : ∃ x_, x_ = w3.heap.size := ⟨_, rfl⟩
     have HXq : Aside0 ((w3.alloc (.cells #[.int .u8 q1, .int .u8 q2, .int .u8 q3, .int .u16 q4, .int .u8 q5, .int .u16 q6, .int .u32 q7, .int .u32 q8, .slice A8 qo.length c8, .slice A9 qb.length c9] 73)).heap[gq]? = some (.cells #[.int .u8 q1, .int .u8 q2, .int .u8 q3, .int .u16 q4, .int .u8 q5, .int .u16 q6, .int .u32 q7, .int .u32 q8, .slice A8 qo.length c8, .slice A9 qb.length c9] 73 (0, 0))) := ⟨by rw [hgq]; exact blk_new' _ _⟩
     rw [← hgq]
     clear hgq
     have hb_ := below_alloc (Below.refl w3.heap.size w3) (.cells #[.int .u8 q1, .int .u8 q2, .int .u8 q3, .int .u16 q4, .int .u8 q5, .int .u16 q6, .int .u32 q7, .int .u32 q8, .slice A8 qo.length c8, .slice A9 qb.length c9] 73)
     have n_HB := Aside0.mk (below_step HB.out hb_)
     have n_HR := Aside0.mk (Kd.R_below HR.out hb_)
     have n_HXe := Aside0.mk (blk_below HXe.out hb_)
     clear HB HR HXe hb_
     have HB := n_HB
     have HR := n_HR
     have HXe := n_HXe
     clear n_HB n_HR n_HXe
     generalize (w3.alloc (.cells #[.int .u8 q1, .int .u8 q2, .int .u8 q3, .int .u16 q4, .int .u8 q5, .int .u16 q6, .int .u32 q7, .int .u32 q8, .slice A8 qo.length c8, .slice A9 qb.length c9] 73)) = w5 at HXq HB HR HXe ⊢
     by_cases cqe : qe = 0
     ·have cqe1 : (qe == 0) = true := beq_iff_eq.2 cqe
      have cqe2 : (qe != 0) = false := by rw [bne, cqe1]; rfl
      rw [if_pos cqe] at H
      clear cqe
      simp only [Option.some.injEq, Prod.mk.injEq] at H
      obtain ⟨rfl, rfl, rfl⟩ := H
      (try dsimp only)
      go_upto_region 9 with (fail)
      refine start_ (n := 7) (S := fun w' => w'.cell? ⟨gq, 7, none⟩ = some (.int .u32 q8) ∧ w'.cell? ⟨ge, 13, none⟩ = some (.slice Ab bd.length cb)) (ds := []) #[false, false, false, false, false, false, false] (by kernel_rfl) rfl rfl ⟨cz HXq.out 7 rfl, cz HXe.out 13 rfl⟩ (fun hHeld => ?_)
      refine with_tabW ref22_Outside.R9.tab ref22_Outside.R9.bits (fun HT_ HW_ => ?_)
      have hb_ := below_drew1 (Below.refl w5.heap.size w5)
      have n_HXq := Aside0.mk (blk_below HXq.out hb_)
      have n_HXe := Aside0.mk (blk_below HXe.out hb_)
      have n_HB := Aside0.mk (below_step HB.out hb_)
      have n_HR := Aside0.mk (Kd.R_below HR.out hb_)
      clear HXq HXe HB HR hb_
      have HXq := n_HXq
      have HXe := n_HXe
      have HB := n_HB
      have HR := n_HR
      clear n_HXq n_HXe n_HB n_HR
      generalize w5.drew = w5 at HXq HXe HB HR hHeld ⊢
      refine pz 0 40 HT_ ?_
      refine pz 2 42 HT_ ?_
      refine tz 1 41 HT_ HW_ hHeld ?_
      refine pz 4 4 HT_ ?_
      refine tz 3 43 HT_ HW_ hHeld ?_
      refine pz 5 5 HT_ ?_
      refine pz 6 6 HT_ ?_
      refine dz HT_ ?_
      clear HT_ HW_ hHeld
      go_wp2
      (try simp only [Exit.inBlock, Exit.then])
      go_ret3
      exact ⟨_, rfl, HR.out, HB.out⟩
     ·have cqe1 : (qe == 0) = false := beq_eq_false_iff_ne.2 cqe
      have cqe2 : (qe != 0) = true := bne_iff_ne.2 cqe
      rw [if_neg (fun hh => cqe hh)] at H
      clear cqe
      simp only [Option.some.injEq, Prod.mk.injEq] at H
      obtain ⟨rfl, rfl, rfl⟩ := H
      (try dsimp only)
      go_wp2
      (try simp only [Exit.inBlock, Exit.then])
      go_ret3
      exact ⟨_, rfl, Kd.R_nil _ _ _ _ _, HB.out⟩
    ·have ct1 : (ty == 2048) = false := beq_eq_false_iff_ne.2 ct
     have ct2 : (ty != 2048) = true := bne_iff_ne.2 ct
     rw [if_neg (fun hh => ct hh.2.2)] at H
     clear ce cq ct
     simp only [Option.some.injEq, Prod.mk.injEq] at H
     obtain ⟨rfl, rfl, rfl⟩ := H
     (try dsimp only)
     go_wp2
     (try simp only [Exit.inBlock, Exit.then])
     go_ret3
     exact ⟨_, rfl, Kd.R_nil _ _ _ _ _, HB.out⟩
   ·have hnq2 : ∀ W : World, (binOp BinOp.neq 29 (.agg #[.int .u8 d0, .int .u8 d1, .int .u8 d2, .int .u8 d3, .int .u8 d4, .int .u8 d5]) (.agg #[.int .u8 a0_7, .int .u8 a0_8, .int .u8 a0_9, .int .u8 a0_10, .int .u8 a0_11, .int .u8 a0_12])).run Try.prog W = .ok (.bool true) W := fun W => by rw [neq6, Bool.eq_false_iff.2 cq]; rfl
    rw [if_neg (fun hh => cq hh.2.1)] at H
    clear ce cq
    simp only [Option.some.injEq, Prod.mk.injEq] at H
    obtain ⟨rfl, rfl, rfl⟩ := H
    (try dsimp only)
    go_wp2
    (try simp only [Exit.inBlock, Exit.then])
    go_ret3
    exact ⟨_, rfl, Kd.R_nil _ _ _ _ _, HB.out⟩
  ·have ce1 : (e == 0) = false := beq_eq_false_iff_ne.2 ce
   have ce2 : (e != 0) = true := bne_iff_ne.2 ce
   rw [if_neg (fun hh => ce hh.1)] at H
   clear ce
   simp only [Option.some.injEq, Prod.mk.injEq] at H
   obtain ⟨rfl, rfl, rfl⟩ := H
   (try dsimp only)
   go_wp2
   (try simp only [Exit.inBlock, Exit.then])
   go_ret3
   exact ⟨_, rfl, Kd.R_nil _ _ _ _ _, HB.out⟩
theorem seat_Outside.calls (a0_0 a0_1 a0_2 a0_3 a0_4 a0_5 a0_6 a0_7 a0_8 a0_9 a0_10 a0_11 a0_12 a0_13 a0_14 a0_15 a0_16 a0_17 a0_18 a0_19 a0_20 a0_21 a0_22 a0_23 a0_24 a0_25 a0_26 a0_27 : Int) (A0_28 : Option Addr) (n0_28 c0_28 : Nat) (A2 : Option Addr) (c2 : Nat) (l2 : List Int) (r1 : List Int) (re : Int) (w : World) (hr2 : Kd.C (Kd.int .u8) w A2 l2.length l2) (hc2 : l2.length ≤ c2) (h : lychref1_EthBytes.f a0_7 a0_8 a0_9 a0_10 a0_11 a0_12 a0_13 a0_14 a0_15 a0_16 a0_17 a0_18 2048 l2 = some (r1, re)) :
  Calls Try.prog 18 #[.agg #[.int .u32 a0_0, .int .u8 a0_1, .int .u8 a0_2, .int .u8 a0_3, .int .u8 a0_4, .int .u8 a0_5, .int .u8 a0_6, .int .u8 a0_7, .int .u8 a0_8, .int .u8 a0_9, .int .u8 a0_10, .int .u8 a0_11, .int .u8 a0_12, .int .u8 a0_13, .int .u8 a0_14, .int .u8 a0_15, .int .u8 a0_16, .int .u8 a0_17, .int .u8 a0_18, .int .u8 a0_19, .int .u8 a0_20, .int .u8 a0_21, .int .u8 a0_22, .int .u8 a0_23, .int .u8 a0_24, .int .u8 a0_25, .int .u8 a0_26, .int .u32 a0_27, .slice A0_28 n0_28 c0_28], .slice A2 l2.length c2] w fun e w' => ∃ v0_ : Value, e = .returned v0_ ∧ Kd.R (Kd.int .u8) 5 w' w.heap.size (fun _ => True) v0_ r1 ∧ Below w.heap.size w w' := by
 have hu33 := Try.underlying33
 have hu29 := Try.underlying29
 have hu73 := Try.underlying73
 have hu83 := Try.underlying83
 have hu58 := Try.underlying58
 have HC := Aside0.mk hr2
 have HCC := Aside0.mk hc2
 have HB := Aside0.mk (Below.refl w.heap.size w)
 clear hr2 hc2
 go_enter Try.func18, Try.ntmps18
 go_upto_region 1 with (((with_reducible refine gate_dst (N := 2) rfl ?_); refine box_event ?hg (N := 2) ?hd (cs := #[.int .u32 a0_0, .int .u8 a0_1, .int .u8 a0_2, .int .u8 a0_3, .int .u8 a0_4, .int .u8 a0_5, .int .u8 a0_6, .int .u8 a0_7, .int .u8 a0_8, .int .u8 a0_9, .int .u8 a0_10, .int .u8 a0_11, .int .u8 a0_12, .int .u8 a0_13, .int .u8 a0_14, .int .u8 a0_15, .int .u8 a0_16, .int .u8 a0_17, .int .u8 a0_18, .int .u8 a0_19, .int .u8 a0_20, .int .u8 a0_21, .int .u8 a0_22, .int .u8 a0_23, .int .u8 a0_24, .int .u8 a0_25, .int .u8 a0_26, .int .u32 a0_27, .slice A0_28 n0_28 c0_28]) (t := 33) ?hr ?_; (case hd => rfl); (case hg => rfl); (case hr => first | (go_simp; done) | (go_simp; rfl)); intro gp hg w1 hbox hb; have n0_ := Aside0.mk (below_step (bz HB) hb); have HQ := Aside0.mk hbox; clear HB ; have HB := n0_; clear n0_  hb hbox hg))
 have n_HC := Aside0.mk (Kd.C_below HC.out HB.out)
 clear HC
 have HC := n_HC
 clear n_HC
 have gp7 := cz HQ.out 7 rfl
 have gp8 := cz HQ.out 8 rfl
 have gp9 := cz HQ.out 9 rfl
 have gp10 := cz HQ.out 10 rfl
 have gp11 := cz HQ.out 11 rfl
 have gp12 := cz HQ.out 12 rfl
 have gp13 := cz HQ.out 13 rfl
 have gp14 := cz HQ.out 14 rfl
 have gp15 := cz HQ.out 15 rfl
 have gp16 := cz HQ.out 16 rfl
 have gp17 := cz HQ.out 17 rfl
 have gp18 := cz HQ.out 18 rfl
 go_wp2_with fail
 clear gp7 gp8 gp9 gp10 gp11 gp12 gp13 gp14 gp15 gp16 gp17 gp18
 refine (lychref1_EthBytes.calls a0_7 a0_8 a0_9 a0_10 a0_11 a0_12 a0_13 a0_14 a0_15 a0_16 a0_17 a0_18 2048 A2 c2 l2 r1 re _ HC.out HCC.out h).mono ?_
 rintro e w3 ⟨v_, rfl, ho, hb⟩
 have HX := Aside0.mk (Kd.R_lower ho (below_size HB.out))
 obtain ⟨Ax, cx, rfl, _, _⟩ := Kd.R_reads ho
 clear ho
 have hb_ := hb
 have n_HB := Aside0.mk (below_step HB.out hb_)
 clear HB hb_
 have HB := n_HB
 clear n_HB
 clear hb HQ
 (try dsimp only)
 go_wp2
 (try simp only [Exit.inBlock, Exit.then])
 go_ret
 exact ⟨_, rfl, HX.out, HB.out⟩
end Go.Proofs.Ytkmimamminddiaa.PB
namespace Go.Proofs.Ytkmimamminddiaa.PB
open Go.RowKit Go.Proofs.YtkmimamminddiaaW.PrintWords Go.Proofs.YtkmimamminddiaaW.PrintLast Go.Proofs.YtkmimamminddiaaW.PrintMore
attribute [local go_sem] max2_int min2_int max_two min_two max_three min_three max_four min_four   -- for this text's walks alone
set_option linter.unusedVariables false
set_option linter.unusedSimpArgs false
def lychseat_inside.f (a0 : Int) : Option (Int) := if (Int.tmod a0 6) = 5 then ((lychseat_Addr.f 10 0 0 9).bind fun t425 => (some t425)) else ((lychseat_Addr.f 10 0 0 ((1 + (Int.tmod a0 3)) % 256)).bind fun t426 => (some t426))
theorem lychseat_inside.calls (a0 : Int) (r : Int) (w : World) (h : lychseat_inside.f a0 = some r) :
  Calls Try.prog 49 #[.int .u8 a0] w fun e w' => e = .returned (.int .u32 r) ∧ Drawn0 w w' := by
 have H : (if (Int.tmod a0 6) = 5 then ((lychseat_Addr.f 10 0 0 9).bind fun t425 => (some t425)) else ((lychseat_Addr.f 10 0 0 ((1 + (Int.tmod a0 3)) % 256)).bind fun t426 => (some t426))) = some r := h
 clear h
 by_cases c2 : (Int.tmod a0 6) = 5
 ·rw [if_pos c2] at H
  have c2b0 : ((Int.tmod a0 6) == 5) = true := beq_iff_eq.mpr c2
  have c2b1 : ((Int.tmod a0 6) != 5) = false := bne_eq_false_iff_eq.mpr c2
  clear c2
  replace H := Option.bind_eq_some_iff.mp H
  obtain ⟨t425, A30, H⟩ := H
  replace H : (some t425) = some r := H
  have A3 := Aside0.mk A30
  clear A30
  obtain rfl := Option.some.inj H
  go_enter Try.func49, Try.ntmps49
  go_wp2_with (first | ((with_reducible refine gate_callee (f := 44) rfl ?_); refine gL 6 Try.func44 #[.int .u8 10, .int .u8 0, .int .u8 0, .int .u8 9] ?_; (with_reducible refine (lychseat_Addr.calls 10 0 0 9 t425 _ A3.out).mono ?_); rintro e w' ⟨rfl, ⟨nd, rfl⟩⟩; refine ⟨_, rfl, ?_⟩))
  go_ret
  exact ⟨by first | rfl | (simp; done) | (simp [*]; done), by repeat (first | exact Drawn0.refl _ | apply Drawn0.step)⟩
 ·rw [if_neg c2] at H
  have c2b0 : ((Int.tmod a0 6) == 5) = false := beq_eq_false_iff_ne.mpr c2
  have c2b1 : ((Int.tmod a0 6) != 5) = true := bne_iff_ne.mpr c2
  replace H := Option.bind_eq_some_iff.mp H
  obtain ⟨t426, A40, H⟩ := H
  replace H : (some t426) = some r := H
  have A4 := Aside0.mk A40
  clear A40
  obtain rfl := Option.some.inj H
  go_enter Try.func49, Try.ntmps49
  go_wp2_with (first | ((with_reducible refine gate_callee (f := 44) rfl ?_); refine gL 10 Try.func44 #[.int .u8 10, .int .u8 0, .int .u8 0, .int .u8 ((1 + (Int.tmod a0 3)) % 256)] ?_; (with_reducible refine (lychseat_Addr.calls 10 0 0 ((1 + (Int.tmod a0 3)) % 256) t426 _ A4.out).mono ?_); rintro e w' ⟨rfl, ⟨nd, rfl⟩⟩; refine ⟨_, rfl, ?_⟩))
  go_ret
  exact ⟨by first | rfl | (simp; done) | (simp [*]; done), by repeat (first | exact Drawn0.refl _ | apply Drawn0.step)⟩
mutual
def lychseat_outside.j0 : Nat → Int → Int → Bool → Option (Int)
 | 0, _, _, _ => none
 | k + 1, x1, x6, x7 => if x7 = true then ((lychseat_Addr.f 8 8 8 8).bind fun t427 => (some t427)) else (if x6 = 2 then ((lychseat_Addr.f 8 8 4 4).bind fun t428 => (some t428)) else (if x6 = 3 then ((lychseat_Addr.f 192 168 0 5).bind fun t429 => (some t429)) else (if x6 = 4 then ((lychseat_Addr.f 192 168 0 6).bind fun t430 => (some t430)) else (if x6 = 5 then (lychseat_outside.j1 k x1 x6 (x6 == 5)) else (lychseat_outside.j1 k x1 x6 (x6 == 6))))))
def lychseat_outside.j1 : Nat → Int → Int → Bool → Option (Int)
 | 0, _, _, _ => none
 | k + 1, x1, x6, x20 => if x20 = true then ((lychseat_Addr.f 5 5 x1 1).bind fun t431 => (some t431)) else (if x6 = 7 then ((lychseat_Addr.f 5 6 x1 9).bind fun t432 => (some t432)) else ((lychseat_Addr.f 5 5 (Go.bits .xor .u8 x1 1) 1).bind fun t433 => (some t433)))
end
def lychseat_outside.f (k : Nat) (a0 : Int) (a1 : Int) : Option (Int) := if (Int.tmod a0 9) = 0 then (lychseat_outside.j0 k a1 (Int.tmod a0 9) ((Int.tmod a0 9) == 0)) else (lychseat_outside.j0 k a1 (Int.tmod a0 9) ((Int.tmod a0 9) == 1))
theorem lychseat_outside.calls (k : Nat) (a0 : Int) (a1 : Int) (r : Int) (w : World) (h : lychseat_outside.f k a0 a1 = some r) :
  Calls Try.prog 50 #[.int .u8 a0, .int .u8 a1] w fun e w' => e = .returned (.int .u32 r) ∧ Drawn0 w w' := by
 have H : (if (Int.tmod a0 9) = 0 then (lychseat_outside.j0 k a1 (Int.tmod a0 9) ((Int.tmod a0 9) == 0)) else (lychseat_outside.j0 k a1 (Int.tmod a0 9) ((Int.tmod a0 9) == 1))) = some r := h
 clear h
 have HC3 := Aside0.mk H
 clear H
 go_enter Try.func50, Try.ntmps50
 go_upto_if 7 with (fail)
 go_cut [7] (fun v7 wc => ∃ (kq : Nat) (x7_2 : Bool), v7 = .bool x7_2 ∧ Aside0 (lychseat_outside.j0 kq a1 (Int.tmod a0 9) x7_2 = some r) ∧ Aside0 (kq ≤ k) ∧ Drawn0 w wc)
 case first =>
  have H := HC3.out
  clear HC3
  by_cases c4 : (Int.tmod a0 9) = 0
  ·rw [if_pos c4] at H
   have c4b0 : ((Int.tmod a0 9) == 0) = true := beq_iff_eq.mpr c4
   have c4b1 : ((Int.tmod a0 9) != 0) = false := bne_eq_false_iff_eq.mpr c4
   clear c4
   (first | rw [c4b0] | (simp only [i64_w, i32_w]; rw [c4b0]) | skip)
   have H' := Aside0.mk H
   clear H
   go_wp2
   go_meet
   case rel => exact ⟨_, (((Int.tmod a0 9) == 0)), (by first | rfl | (simp; done) | (simp [*]; done)), H', ⟨by first | omega | exact Nat.le_refl _⟩, by repeat (first | exact Drawn0.refl _ | apply Drawn0.step)⟩
  ·rw [if_neg c4] at H
   have c4b0 : ((Int.tmod a0 9) == 0) = false := beq_eq_false_iff_ne.mpr c4
   have c4b1 : ((Int.tmod a0 9) != 0) = true := bne_iff_ne.mpr c4
   (first | rw [c4b0] | (simp only [i64_w, i32_w]; rw [c4b0]) | skip)
   have H' := Aside0.mk H
   clear H
   go_wp2
   go_meet
   case rel => exact ⟨_, (((Int.tmod a0 9) == 1)), (by first | rfl | (simp; done) | (simp [*]; done)), H', ⟨by first | omega | exact Nat.le_refl _⟩, by repeat (first | exact Drawn0.refl _ | apply Drawn0.step)⟩
 case rest =>
  clear HC3
  obtain ⟨kq, x7_2, rfl, HA, HJ2, ⟨mc2, rfl⟩⟩ := hcut
  cases kq with
  | zero => exact absurd HA.out (by simp [lychseat_outside.j0])
  | succ kj2 =>
   have H := HA.out
   clear HA
   simp only [lychseat_outside.j0] at H
   by_cases c5 : x7_2 = true
   ·subst c5
    have H1 : ((lychseat_Addr.f 8 8 8 8).bind fun t427 => (some t427)) = some r := by rw [if_pos rfl] at H; exact H
    clear H
    have H := H1
    clear H1
    replace H := Option.bind_eq_some_iff.mp H
    obtain ⟨t427, A60, H⟩ := H
    replace H : (some t427) = some r := H
    have A6 := Aside0.mk A60
    clear A60
    obtain rfl := Option.some.inj H
    go_wp2_with (first | ((with_reducible refine gate_callee (f := 44) rfl ?_); refine gL 10 Try.func44 #[.int .u8 8, .int .u8 8, .int .u8 8, .int .u8 8] ?_; (with_reducible refine (lychseat_Addr.calls 8 8 8 8 t427 _ A6.out).mono ?_); rintro e w' ⟨rfl, ⟨nd, rfl⟩⟩; refine ⟨_, rfl, ?_⟩))
    go_ret
    exact ⟨by first | rfl | (simp; done) | (simp [*]; done), by repeat (first | exact Drawn0.refl _ | apply Drawn0.step)⟩
   ·replace c5 := Bool.eq_false_iff.mpr c5
    subst c5
    have H1 : (if (Int.tmod a0 9) = 2 then ((lychseat_Addr.f 8 8 4 4).bind fun t428 => (some t428)) else (if (Int.tmod a0 9) = 3 then ((lychseat_Addr.f 192 168 0 5).bind fun t429 => (some t429)) else (if (Int.tmod a0 9) = 4 then ((lychseat_Addr.f 192 168 0 6).bind fun t430 => (some t430)) else (if (Int.tmod a0 9) = 5 then (lychseat_outside.j1 kj2 a1 (Int.tmod a0 9) ((Int.tmod a0 9) == 5)) else (lychseat_outside.j1 kj2 a1 (Int.tmod a0 9) ((Int.tmod a0 9) == 6)))))) = some r := by rw [if_neg (show ¬ (false = true) by decide)] at H; exact H
    clear H
    have H := H1
    clear H1
    by_cases c7 : (Int.tmod a0 9) = 2
    ·rw [if_pos c7] at H
     have c7b0 : ((Int.tmod a0 9) == 2) = true := beq_iff_eq.mpr c7
     have c7b1 : ((Int.tmod a0 9) != 2) = false := bne_eq_false_iff_eq.mpr c7
     clear c7
     replace H := Option.bind_eq_some_iff.mp H
     obtain ⟨t428, A80, H⟩ := H
     replace H : (some t428) = some r := H
     have A8 := Aside0.mk A80
     clear A80
     obtain rfl := Option.some.inj H
     go_wp2_with (first | ((with_reducible refine gate_callee (f := 44) rfl ?_); refine gL 13 Try.func44 #[.int .u8 8, .int .u8 8, .int .u8 4, .int .u8 4] ?_; (with_reducible refine (lychseat_Addr.calls 8 8 4 4 t428 _ A8.out).mono ?_); rintro e w' ⟨rfl, ⟨nd, rfl⟩⟩; refine ⟨_, rfl, ?_⟩))
     go_ret
     exact ⟨by first | rfl | (simp; done) | (simp [*]; done), by repeat (first | exact Drawn0.refl _ | apply Drawn0.step)⟩
    ·rw [if_neg c7] at H
     have c7b0 : ((Int.tmod a0 9) == 2) = false := beq_eq_false_iff_ne.mpr c7
     have c7b1 : ((Int.tmod a0 9) != 2) = true := bne_iff_ne.mpr c7
     by_cases c9 : (Int.tmod a0 9) = 3
     ·rw [if_pos c9] at H
      have c9b0 : ((Int.tmod a0 9) == 3) = true := beq_iff_eq.mpr c9
      have c9b1 : ((Int.tmod a0 9) != 3) = false := bne_eq_false_iff_eq.mpr c9
      clear c9
      replace H := Option.bind_eq_some_iff.mp H
      obtain ⟨t429, A100, H⟩ := H
      replace H : (some t429) = some r := H
      have A10 := Aside0.mk A100
      clear A100
      obtain rfl := Option.some.inj H
      go_wp2_with (first | ((with_reducible refine gate_callee (f := 44) rfl ?_); refine gL 16 Try.func44 #[.int .u8 192, .int .u8 168, .int .u8 0, .int .u8 5] ?_; (with_reducible refine (lychseat_Addr.calls 192 168 0 5 t429 _ A10.out).mono ?_); rintro e w' ⟨rfl, ⟨nd, rfl⟩⟩; refine ⟨_, rfl, ?_⟩))
      go_ret
      exact ⟨by first | rfl | (simp; done) | (simp [*]; done), by repeat (first | exact Drawn0.refl _ | apply Drawn0.step)⟩
     ·rw [if_neg c9] at H
      have c9b0 : ((Int.tmod a0 9) == 3) = false := beq_eq_false_iff_ne.mpr c9
      have c9b1 : ((Int.tmod a0 9) != 3) = true := bne_iff_ne.mpr c9
      by_cases c11 : (Int.tmod a0 9) = 4
      ·rw [if_pos c11] at H
       have c11b0 : ((Int.tmod a0 9) == 4) = true := beq_iff_eq.mpr c11
       have c11b1 : ((Int.tmod a0 9) != 4) = false := bne_eq_false_iff_eq.mpr c11
       clear c11
       replace H := Option.bind_eq_some_iff.mp H
       obtain ⟨t430, A120, H⟩ := H
       replace H : (some t430) = some r := H
       have A12 := Aside0.mk A120
       clear A120
       obtain rfl := Option.some.inj H
       go_wp2_with (first | ((with_reducible refine gate_callee (f := 44) rfl ?_); refine gL 19 Try.func44 #[.int .u8 192, .int .u8 168, .int .u8 0, .int .u8 6] ?_; (with_reducible refine (lychseat_Addr.calls 192 168 0 6 t430 _ A12.out).mono ?_); rintro e w' ⟨rfl, ⟨nd, rfl⟩⟩; refine ⟨_, rfl, ?_⟩))
       go_ret
       exact ⟨by first | rfl | (simp; done) | (simp [*]; done), by repeat (first | exact Drawn0.refl _ | apply Drawn0.step)⟩
      ·rw [if_neg c11] at H
       have c11b0 : ((Int.tmod a0 9) == 4) = false := beq_eq_false_iff_ne.mpr c11
       have c11b1 : ((Int.tmod a0 9) != 4) = true := bne_iff_ne.mpr c11
       have HC13 := Aside0.mk H
       clear H
       go_upto_if 20 with (fail)
       go_cut [20] (fun v20 wc => ∃ (kq : Nat) (x20_12 : Bool), v20 = .bool x20_12 ∧ Aside0 (lychseat_outside.j1 kq a1 (Int.tmod a0 9) x20_12 = some r) ∧ Aside0 (kq ≤ kj2) ∧ Drawn0 w wc)
       case first =>
        have H := HC13.out
        clear HC13
        by_cases c14 : (Int.tmod a0 9) = 5
        ·rw [if_pos c14] at H
         have c14b0 : ((Int.tmod a0 9) == 5) = true := beq_iff_eq.mpr c14
         have c14b1 : ((Int.tmod a0 9) != 5) = false := bne_eq_false_iff_eq.mpr c14
         clear c14
         (first | rw [c14b0] | (simp only [i64_w, i32_w]; rw [c14b0]) | skip)
         have H' := Aside0.mk H
         clear H
         go_wp2
         go_meet
         case rel => exact ⟨_, (((Int.tmod a0 9) == 5)), (by first | rfl | (simp; done) | (simp [*]; done)), H', ⟨by have := HJ2.out; first | omega | exact Nat.le_refl _⟩, by repeat (first | exact Drawn0.refl _ | apply Drawn0.step)⟩
        ·rw [if_neg c14] at H
         have c14b0 : ((Int.tmod a0 9) == 5) = false := beq_eq_false_iff_ne.mpr c14
         have c14b1 : ((Int.tmod a0 9) != 5) = true := bne_iff_ne.mpr c14
         (first | rw [c14b0] | (simp only [i64_w, i32_w]; rw [c14b0]) | skip)
         have H' := Aside0.mk H
         clear H
         go_wp2
         go_meet
         case rel => exact ⟨_, (((Int.tmod a0 9) == 6)), (by first | rfl | (simp; done) | (simp [*]; done)), H', ⟨by have := HJ2.out; first | omega | exact Nat.le_refl _⟩, by repeat (first | exact Drawn0.refl _ | apply Drawn0.step)⟩
       case rest =>
        clear HC13
        try clear c5
        try clear c7
        try clear c7b0
        try clear c7b1
        try clear c9
        try clear c9b0
        try clear c9b1
        try clear c11
        try clear c11b0
        try clear c11b1
        obtain ⟨kq, x20_12, rfl, HA, HJ12, ⟨mc12, rfl⟩⟩ := hcut
        cases kq with
        | zero => exact absurd HA.out (by simp [lychseat_outside.j1])
        | succ kj12 =>
         have H := HA.out
         clear HA
         simp only [lychseat_outside.j1] at H
         by_cases c15 : x20_12 = true
         ·subst c15
          have H1 : ((lychseat_Addr.f 5 5 a1 1).bind fun t431 => (some t431)) = some r := by rw [if_pos rfl] at H; exact H
          clear H
          have H := H1
          clear H1
          replace H := Option.bind_eq_some_iff.mp H
          obtain ⟨t431, A160, H⟩ := H
          replace H : (some t431) = some r := H
          have A16 := Aside0.mk A160
          clear A160
          obtain rfl := Option.some.inj H
          go_wp2_with (first | ((with_reducible refine gate_callee (f := 44) rfl ?_); refine gL 24 Try.func44 #[.int .u8 5, .int .u8 5, .int .u8 a1, .int .u8 1] ?_; (with_reducible refine (lychseat_Addr.calls 5 5 a1 1 t431 _ A16.out).mono ?_); rintro e w' ⟨rfl, ⟨nd, rfl⟩⟩; refine ⟨_, rfl, ?_⟩))
          go_ret
          exact ⟨by first | rfl | (simp; done) | (simp [*]; done), by repeat (first | exact Drawn0.refl _ | apply Drawn0.step)⟩
         ·replace c15 := Bool.eq_false_iff.mpr c15
          subst c15
          have H1 : (if (Int.tmod a0 9) = 7 then ((lychseat_Addr.f 5 6 a1 9).bind fun t432 => (some t432)) else ((lychseat_Addr.f 5 5 (Go.bits .xor .u8 a1 1) 1).bind fun t433 => (some t433))) = some r := by rw [if_neg (show ¬ (false = true) by decide)] at H; exact H
          clear H
          have H := H1
          clear H1
          by_cases c17 : (Int.tmod a0 9) = 7
          ·rw [if_pos c17] at H
           have c17b0 : ((Int.tmod a0 9) == 7) = true := beq_iff_eq.mpr c17
           have c17b1 : ((Int.tmod a0 9) != 7) = false := bne_eq_false_iff_eq.mpr c17
           clear c17
           replace H := Option.bind_eq_some_iff.mp H
           obtain ⟨t432, A180, H⟩ := H
           replace H : (some t432) = some r := H
           have A18 := Aside0.mk A180
           clear A180
           obtain rfl := Option.some.inj H
           go_wp2_with (first | ((with_reducible refine gate_callee (f := 44) rfl ?_); refine gL 28 Try.func44 #[.int .u8 5, .int .u8 6, .int .u8 a1, .int .u8 9] ?_; (with_reducible refine (lychseat_Addr.calls 5 6 a1 9 t432 _ A18.out).mono ?_); rintro e w' ⟨rfl, ⟨nd, rfl⟩⟩; refine ⟨_, rfl, ?_⟩))
           go_ret
           exact ⟨by first | rfl | (simp; done) | (simp [*]; done), by repeat (first | exact Drawn0.refl _ | apply Drawn0.step)⟩
          ·rw [if_neg c17] at H
           have c17b0 : ((Int.tmod a0 9) == 7) = false := beq_eq_false_iff_ne.mpr c17
           have c17b1 : ((Int.tmod a0 9) != 7) = true := bne_iff_ne.mpr c17
           replace H := Option.bind_eq_some_iff.mp H
           obtain ⟨t433, A190, H⟩ := H
           replace H : (some t433) = some r := H
           have A19 := Aside0.mk A190
           clear A190
           obtain rfl := Option.some.inj H
           go_wp2_with (first | ((with_reducible refine gate_callee (f := 44) rfl ?_); refine gL 31 Try.func44 #[.int .u8 5, .int .u8 5, .int .u8 (Go.bits .xor .u8 a1 1), .int .u8 1] ?_; (with_reducible refine (lychseat_Addr.calls 5 5 (Go.bits .xor .u8 a1 1) 1 t433 _ A19.out).mono ?_); rintro e w' ⟨rfl, ⟨nd, rfl⟩⟩; refine ⟨_, rfl, ?_⟩))
           go_ret
           exact ⟨by first | rfl | (simp; done) | (simp [*]; done), by repeat (first | exact Drawn0.refl _ | apply Drawn0.step)⟩
def lychseat_proto.f (a0 : Int) : Option (Int) := (some (([17, 6, 1, 17] : List Int) : List Int)).bind fun y434 => (if 0 ≤ (Int.tmod a0 4) then (if (Int.tmod a0 4) < (y434.length : Int) then (some (rd y434 (Int.tmod a0 4))) else (none)) else (none))
theorem lychseat_proto.calls (a0 : Int) (r : Int) (w : World) (h : lychseat_proto.f a0 = some r) :
  Calls Try.prog 51 #[.int .u8 a0] w fun e w' => e = .returned (.int .u8 r) ∧ Below w.heap.size w w' := by
 have HB := Aside0.mk (Below.refl w.heap.size w)
 have H : ((some (([17, 6, 1, 17] : List Int) : List Int)).bind fun y434 => (if 0 ≤ (Int.tmod a0 4) then (if (Int.tmod a0 4) < (y434.length : Int) then (some (rd y434 (Int.tmod a0 4))) else (none)) else (none))) = some r := h
 clear h
 obtain ⟨y434, hy434⟩ : ∃ y_ : List Int, y_ = (([17, 6, 1, 17] : List Int)) := ⟨_, rfl⟩
 replace H : (if 0 ≤ (Int.tmod a0 4) then (if (Int.tmod a0 4) < (y434.length : Int) then (some (rd y434 (Int.tmod a0 4))) else (none)) else (none)) = some r := by first | (rw [hy434]; with_reducible exact H) | (have H2_ := (Option.bind_some _ _).symm.trans H; rw [hy434]; with_reducible exact H2_) | (have H2_ := (Option.bind_some _ _).symm.trans H; with_reducible exact H2_) | with_reducible exact H | (rw [hy434]; exact H) | exact H
 have Ny434 := Aside0.mk hy434
 clear hy434
 obtain ⟨ji2, hji2⟩ : ∃ j_ : Int, (Int.tmod a0 4) = j_ := ⟨_, rfl⟩
 replace H : (if 0 ≤ (ji2) then (if (ji2) < (y434.length : Int) then (some (rd y434 (ji2))) else (none)) else (none)) = some r := by first | (rw [hji2] at H; exact H) | (simp only [hji2] at H ⊢; exact H)
 by_cases c3 : 0 ≤ (ji2)
 ·rw [if_pos c3] at H
  have c3b0 : decide (0 ≤ (ji2)) = true := decide_eq_true c3
  clear c3
  by_cases c4 : (ji2) < (y434.length : Int)
  ·rw [if_pos c4] at H
   have c4b0 : decide ((ji2) < (y434.length : Int)) = true := decide_eq_true c4
   clear c4
   obtain rfl := Option.some.inj H
   go_enter Try.func51, Try.ntmps51
   go_wp2_with (first | ((with_reducible refine gate_dst (N := 3) rfl ?_); refine Kd.R_lit (Kd.int .u8) _ 5 ?hg (N := 3) ?hd (xs := ([17, 6, 1, 17] : List Int)) (inner := [.int .u8 17, .int .u8 6, .int .u8 1, .int .u8 17]) (ok := fun _ => True) (okp := fun _ => True) ?hr ?hp (fun _ hk => hk) trivial (Below.refl _ _) (Nat.le_refl _) (by simp) ?_; (case hd => rfl); (case hg => rfl); (case hr => first | (go_simp; done) | (go_simp; rfl)); (case hp => exact (Reps.one (show Kd.M (Kd.int .u8) _ _ _ 17 [.int .u8 17] from rfl) (Reps.one (show Kd.M (Kd.int .u8) _ _ _ 6 [.int .u8 6] from rfl) (Reps.one (show Kd.M (Kd.int .u8) _ _ _ 1 [.int .u8 1] from rfl) (Reps.one (show Kd.M (Kd.int .u8) _ _ _ 17 [.int .u8 17] from rfl) (Reps.none _ _)))))); intro v435 w5 ho6 hb hg_ hnew_; clear hg_ hnew_; (first | rw [← Ny434.out] at ho6 | (simp only [Int.reduceToNat] at ho6; rw [← Ny434.out] at ho6)); have n0_ := Aside0.mk (Kd.R_lower ho6 (below_size (bz HB))); have n1_ := Aside0.mk (below_step (bz HB) hb); clear HB; have HO436 := n0_; have HB := n1_; clear n0_ n1_; clear hb ho6; obtain ⟨Ao7, co7, eo7⟩ := Kd.R_slice HO436.out; subst eo7; have p437 : 0 ≤ ((ji2) : Int) := of_decide_eq_true (by first | (with_reducible assumption) | assumption); have q437 : (ji2) < (y434.length : Int) := of_decide_eq_true (by first | (with_reducible assumption) | assumption); obtain ⟨ad437, e437, hx437_0⟩ := Kd.at_int (Kd.R_reads' HO436.out).2.2 (ji2) p437 q437; cases e437; replace p437 := eq_true p437; replace q437 := eq_true q437))
   go_ret
   exact ⟨by first | rfl | (simp [errW_none, errW_some] <;> rfl) | (simp only [← hji2]; first | rfl | (simp [errW_none, errW_some] <;> rfl)) | (simp [*, errW_none, errW_some] <;> rfl), bz HB⟩
  ·rw [if_neg c4] at H
   exact absurd H (by simp)
 ·rw [if_neg c3] at H
  exact absurd H (by simp)
def lychseat_port.f (a0 : Int) : Option (Int) := if (Int.tmod a0 5) = 0 then (some (IntKind.u16.wrap (1000 + (IntKind.u16.wrap (a0 / 16))))) else (if (Int.tmod a0 5) = 1 then (some 53) else (some (IntKind.u16.wrap (1020 + (IntKind.u16.wrap (a0 / 8))))))
theorem lychseat_port.calls (a0 : Int) (r : Int) (w : World) (h : lychseat_port.f a0 = some r) :
  Calls Try.prog 52 #[.int .u8 a0] w fun e w' => e = .returned (.int .u16 r) ∧ Drawn0 w w' := by
 have H : (if (Int.tmod a0 5) = 0 then (some (IntKind.u16.wrap (1000 + (IntKind.u16.wrap (a0 / 16))))) else (if (Int.tmod a0 5) = 1 then (some 53) else (some (IntKind.u16.wrap (1020 + (IntKind.u16.wrap (a0 / 8))))))) = some r := h
 clear h
 by_cases c2 : (Int.tmod a0 5) = 0
 ·rw [if_pos c2] at H
  have c2b0 : ((Int.tmod a0 5) == 0) = true := beq_iff_eq.mpr c2
  have c2b1 : ((Int.tmod a0 5) != 0) = false := bne_eq_false_iff_eq.mpr c2
  clear c2
  obtain rfl := Option.some.inj H
  go_enter Try.func52, Try.ntmps52
  go_wp2
  go_ret
  exact ⟨by first | rfl | (simp; done) | (simp [*]; done), by repeat (first | exact Drawn0.refl _ | apply Drawn0.step)⟩
 ·rw [if_neg c2] at H
  have c2b0 : ((Int.tmod a0 5) == 0) = false := beq_eq_false_iff_ne.mpr c2
  have c2b1 : ((Int.tmod a0 5) != 0) = true := bne_iff_ne.mpr c2
  by_cases c3 : (Int.tmod a0 5) = 1
  ·rw [if_pos c3] at H
   have c3b0 : ((Int.tmod a0 5) == 1) = true := beq_iff_eq.mpr c3
   have c3b1 : ((Int.tmod a0 5) != 1) = false := bne_eq_false_iff_eq.mpr c3
   clear c3
   obtain rfl := Option.some.inj H
   go_enter Try.func52, Try.ntmps52
   go_wp2
   go_ret
   exact ⟨by first | rfl | (simp; done) | (simp [*]; done), by repeat (first | exact Drawn0.refl _ | apply Drawn0.step)⟩
  ·rw [if_neg c3] at H
   have c3b0 : ((Int.tmod a0 5) == 1) = false := beq_eq_false_iff_ne.mpr c3
   have c3b1 : ((Int.tmod a0 5) != 1) = true := bne_iff_ne.mpr c3
   obtain rfl := Option.some.inj H
   go_enter Try.func52, Try.ntmps52
   go_wp2
   go_ret
   exact ⟨by first | rfl | (simp; done) | (simp [*]; done), by repeat (first | exact Drawn0.refl _ | apply Drawn0.step)⟩
def lychref1_IcmpBytes.f (a0_0 : Int) (a0_1 : Int) (a0_2 : Int) (a0_3 : Int) (l0_4 : List Int) : Option (List Int × Int) := if (l0_4.length : Int) > 65507 then (some (([] : List Int), 23)) else ((lychref1_Put16.f (([a0_0, a0_1] : List Int)) a0_2).bind fun t442 => ((lychref1_Put32.f t442 a0_3).bind fun t445 => (if t445.length + l0_4.length < 140737488355328 then (some ((t445 ++ l0_4), 0)) else (none))))
def lychref1_IcmpBytes.T3 : Bool × List (List Nat × List Nat) := (true, [([], []), ([0], [0]), ([], []), ([2], [2]), ([1, 3], [1, 3]), ([], []), ([5], [5]), ([4, 6], [4, 6]), ([], []), ([8], [8]), ([7, 9, 7], [7, 9]), ([], []), ([11], [11]), ([10, 12, 10], [10, 12]), ([13, 13, 0, 1, 2, 3, 4, 5, 6, 7, 8, 9, 10, 11, 12, 13], [13]), ([14, 0, 1, 2, 3, 4, 5, 6, 7, 8, 9, 10, 11, 12, 13, 14], [])])
def lychref1_IcmpBytes.B3 : List Nat := [0, 1, 0, 4, 15, 0, 32, 127, 0, 256, 1023, 0, 2048, 8191, 16383, 32767]
theorem lychref1_IcmpBytes.tab3 : rtab .any (opsOf Try.f55 3) = lychref1_IcmpBytes.T3 := by kernel_rfl
theorem lychref1_IcmpBytes.bits3 : waitsOk lychref1_IcmpBytes.T3.2 lychref1_IcmpBytes.B3 = true := by kernel_rfl
theorem lychref1_IcmpBytes.calls (a0_0 : Int) (a0_1 : Int) (a0_2 : Int) (a0_3 : Int) (A0_4 : Option Addr) (c0_4 : Nat) (l0_4 : List Int) (r1 : List Int) (r2 : Int) (w : World) (hr0_4 : Kd.C (Kd.int .u8) w A0_4 l0_4.length l0_4) (hc0_4 : l0_4.length ≤ c0_4) (h : lychref1_IcmpBytes.f a0_0 a0_1 a0_2 a0_3 l0_4 = some (r1, r2)) :
  Calls Try.prog 55 #[.agg #[.int .u8 a0_0, .int .u8 a0_1, .int .u16 a0_2, .int .u32 a0_3, .slice A0_4 l0_4.length c0_4]] w fun e w' => ∃ v0_ : Value, e = .returned (.tuple #[v0_, .int .i64 r2]) ∧ Kd.R (Kd.int .u8) 5 w' w.heap.size (fun _ => True) v0_ r1 ∧ Below w.heap.size w w' := by
 have hu101 := Try.underlying101
 have HR0_4 := Aside0.mk hr0_4
 have HC0_4 := Aside0.mk hc0_4
 clear hr0_4 hc0_4
 have HB := Aside0.mk (Below.refl w.heap.size w)
 have H : (if (l0_4.length : Int) > 65507 then (some (([] : List Int), 23)) else ((lychref1_Put16.f (([a0_0, a0_1] : List Int)) a0_2).bind fun t442 => ((lychref1_Put32.f t442 a0_3).bind fun t445 => (if t445.length + l0_4.length < 140737488355328 then (some ((t445 ++ l0_4), 0)) else (none))))) = some (r1, r2) := h
 clear h
 by_cases c2 : (l0_4.length : Int) > 65507
 ·rw [if_pos c2] at H
  have c2b0 : decide (65507 < (l0_4.length : Int)) = true := decide_eq_true c2
  have c2b1 : decide (65507 < l0_4.length) = true := decide_eq_true (by omega)
  clear c2
  simp only [Option.some.injEq, Prod.mk.injEq] at H
  obtain ⟨rfl, rfl⟩ := H
  go_enter Try.func55, Try.ntmps55
  go_wp2_with (first | ((with_reducible refine gate_dst (N := 1) rfl ?_); refine box_event ?hg (N := 1) ?hd (cs := #[.int .u8 a0_0, .int .u8 a0_1, .int .u16 a0_2, .int .u32 a0_3, .slice A0_4 l0_4.length c0_4]) (t := 101) ?hr ?_; (case hd => rfl); (case hg => rfl); (case hr => first | (go_simp; done) | (go_simp; rfl)); intro gb438 hg w3 hbox hb; have n0_ := Aside0.mk (below_step (bz HB) hb); have n1_ := Aside0.mk (hbox); have n2_ := Aside0.mk ((by rw [hg]; exact (below_size (bz HB)) : w.heap.size ≤ gb438)); have n3_ := Aside0.mk ((by rw [hg]; exact (below_size (bz HB)) : w.heap.size ≤ gb438)); clear HB; have HB := n0_; have BK438 := n1_; have GW438 := n2_; have GE438 := n3_; clear n0_ n1_ n2_ n3_; clear hb hbox hg; have hcz4_0 : w3.cell? ⟨gb438, 0, none⟩ = some (.int .u8 a0_0) := cz BK438.out 0 rfl; have hcz4_1 : w3.cell? ⟨gb438, 1, none⟩ = some (.int .u8 a0_1) := cz BK438.out 1 rfl; have hcz4_2 : w3.cell? ⟨gb438, 2, none⟩ = some (.int .u16 a0_2) := cz BK438.out 2 rfl; have hcz4_3 : w3.cell? ⟨gb438, 3, none⟩ = some (.int .u32 a0_3) := cz BK438.out 3 rfl; have hcz4_4 : w3.cell? ⟨gb438, 4, none⟩ = some (.slice A0_4 l0_4.length c0_4) := cz BK438.out 4 rfl; have hfz4_0 := blk_frozen BK438.out 0; have hfz4_1 := blk_frozen BK438.out 1; have hfz4_2 := blk_frozen BK438.out 2; have hfz4_3 := blk_frozen BK438.out 3; have hfz4_4 := blk_frozen BK438.out 4))
  go_ret2
  exact ⟨_, by first | rfl | (simp [errW_none, errW_some] <;> rfl) | (simp [*, errW_none, errW_some] <;> rfl), by first | exact Kd.R_nil _ _ _ _ _ | exact Kd.N_nil _ _ _ _ _ | exact Kd.V_nil _ _ _ _ _ | exact Kd.Q_nil _ _ _ _ _ | exact Kd.S_nil _ _ _ _ _, bz HB⟩
 ·rw [if_neg c2] at H
  have c2b0 : decide (65507 < (l0_4.length : Int)) = false := decide_eq_false c2
  have c2b1 : decide (65507 < l0_4.length) = false := decide_eq_false (by omega)
  clear c2
  obtain ⟨y439, hy439⟩ : ∃ y_ : List Int, y_ = (([a0_0, a0_1] : List Int)) := ⟨_, rfl⟩
  replace H : ((lychref1_Put16.f y439 a0_2).bind fun t442 => ((lychref1_Put32.f t442 a0_3).bind fun t445 => (if t445.length + l0_4.length < 140737488355328 then (some ((t445 ++ l0_4), 0)) else (none)))) = some (r1, r2) := by first | (rw [hy439]; with_reducible exact H) | (have H2_ := (Option.bind_some _ _).symm.trans H; rw [hy439]; with_reducible exact H2_) | (have H2_ := (Option.bind_some _ _).symm.trans H; with_reducible exact H2_) | with_reducible exact H | (rw [hy439]; exact H) | exact H
  have Ny439 := Aside0.mk hy439
  clear hy439
  replace H := Option.bind_eq_some_iff.mp H
  obtain ⟨t442, A50, H⟩ := H
  replace H : ((lychref1_Put32.f t442 a0_3).bind fun t445 => (if t445.length + l0_4.length < 140737488355328 then (some ((t445 ++ l0_4), 0)) else (none))) = some (r1, r2) := H
  have A5 := Aside0.mk A50
  clear A50
  replace H := Option.bind_eq_some_iff.mp H
  obtain ⟨t445, A60, H⟩ := H
  replace H : (if t445.length + l0_4.length < 140737488355328 then (some ((t445 ++ l0_4), 0)) else (none)) = some (r1, r2) := H
  have A6 := Aside0.mk A60
  clear A60
  by_cases c7 : t445.length + l0_4.length < 140737488355328
  ·rw [if_pos c7] at H
   have LMc7 := Aside0.mk c7
   clear c7
   obtain ⟨y448, hy448⟩ : ∃ y_ : List Int, y_ = (t445 ++ l0_4) := ⟨_, rfl⟩
   replace H : (some (y448, 0)) = some (r1, r2) := by first | (rw [hy448]; with_reducible exact H) | (have H2_ := (Option.bind_some _ _).symm.trans H; rw [hy448]; with_reducible exact H2_) | (have H2_ := (Option.bind_some _ _).symm.trans H; with_reducible exact H2_) | with_reducible exact H | (rw [hy448]; exact H) | exact H
   have Ny448 := Aside0.mk hy448
   clear hy448
   simp only [Option.some.injEq, Prod.mk.injEq] at H
   obtain ⟨rfl, rfl⟩ := H
   go_enter Try.func55, Try.ntmps55
   try go_wp2_with (first | ((with_reducible refine gate_dst (N := 1) rfl ?_); refine box_event ?hg (N := 1) ?hd (cs := #[.int .u8 a0_0, .int .u8 a0_1, .int .u16 a0_2, .int .u32 a0_3, .slice A0_4 l0_4.length c0_4]) (t := 101) ?hr ?_; (case hd => rfl); (case hg => rfl); (case hr => first | (go_simp; done) | (go_simp; rfl)); intro gb438 hg w8 hbox hb; have n0_ := Aside0.mk (below_step (bz HB) hb); have n1_ := Aside0.mk (hbox); have n2_ := Aside0.mk ((by rw [hg]; exact (below_size (bz HB)) : w.heap.size ≤ gb438)); have n3_ := Aside0.mk ((by rw [hg]; exact (below_size (bz HB)) : w.heap.size ≤ gb438)); clear HB; have HB := n0_; have BK438 := n1_; have GW438 := n2_; have GE438 := n3_; clear n0_ n1_ n2_ n3_; clear hb hbox hg; have hcz9_0 : w8.cell? ⟨gb438, 0, none⟩ = some (.int .u8 a0_0) := cz BK438.out 0 rfl; have hcz9_1 : w8.cell? ⟨gb438, 1, none⟩ = some (.int .u8 a0_1) := cz BK438.out 1 rfl; have hcz9_2 : w8.cell? ⟨gb438, 2, none⟩ = some (.int .u16 a0_2) := cz BK438.out 2 rfl; have hcz9_3 : w8.cell? ⟨gb438, 3, none⟩ = some (.int .u32 a0_3) := cz BK438.out 3 rfl; have hcz9_4 : w8.cell? ⟨gb438, 4, none⟩ = some (.slice A0_4 l0_4.length c0_4) := cz BK438.out 4 rfl; have hfz9_0 := blk_frozen BK438.out 0; have hfz9_1 := blk_frozen BK438.out 1; have hfz9_2 := blk_frozen BK438.out 2; have hfz9_3 := blk_frozen BK438.out 3; have hfz9_4 := blk_frozen BK438.out 4))
   have n0_ := Aside0.mk (blk_drew BK438.out)
   have n1_ := Aside0.mk (below_drew1 HB.out)
   clear BK438
   clear HB
   have BK438 := n0_
   have HB := n1_
   clear n0_ n1_
   refine start_ (n := 16) (S := fun w' => w'.cell? ⟨gb438, 0, none⟩ = some (.int .u8 a0_0) ∧ w'.cell? ⟨gb438, 1, none⟩ = some (.int .u8 a0_1) ∧ w'.cell? ⟨gb438, 2, none⟩ = some (.int .u16 a0_2) ∧ w'.cell? ⟨gb438, 3, none⟩ = some (.int .u32 a0_3) ∧ w'.cell? ⟨gb438, 4, none⟩ = some (.slice A0_4 l0_4.length c0_4)) (ds := []) #[false, false, false, false, false, false, false, false, false, false, false, false, false, false, false, false] (by kernel_rfl) rfl rfl ⟨cz BK438.out 0 rfl, cz BK438.out 1 rfl, cz BK438.out 2 rfl, cz BK438.out 3 rfl, cz BK438.out 4 rfl⟩ (fun hHeld => ?_); refine with_tabW lychref1_IcmpBytes.tab3 lychref1_IcmpBytes.bits3 (fun HT_ HW_ => ?_)
   generalize w8.drew = w10 at BK438 HB hHeld ⊢
   refine pz 0 8 HT_ ?_
   refine pz 2 10 HT_ ?_
   refine pz 5 13 HT_ ?_
   refine pz 8 16 HT_ ?_
   refine pz 11 19 HT_ ?_
   refine take_ (i := 1) (N := some 9) (v := ?_) (a' := ?_) #[true, true, true, false, false, true, false, false, true, false, false, true, false, false, false, false] rfl rfl (take_ofW HT_.out HW_.out (by kernel_rfl)) (fun _ _ _ h => h) (Or.inl ⟨by rfl, ?_⟩) hHeld ?_ ?_
   rotate_left
   ·rintro w' ⟨s0, s1, s2, s3, s4⟩
    go_simp
    with_reducible rfl
   rotate_left
   ·simp only [ps_]
    rfl
   refine take_ (i := 3) (N := some 11) (v := ?_) (a' := ?_) #[true, true, true, true, false, true, false, false, true, false, false, true, false, false, false, false] rfl rfl (take_ofW HT_.out HW_.out (by kernel_rfl)) (fun _ _ _ h => h) (Or.inl ⟨by rfl, ?_⟩) hHeld ?_ ?_
   rotate_left
   ·rintro w' ⟨s0, s1, s2, s3, s4⟩
    go_simp
    with_reducible rfl
   rotate_left
   ·simp only [ps_]
    rfl
   refine take_ (i := 6) (N := some 14) (v := ?_) (a' := ?_) #[true, true, true, true, false, true, true, false, true, false, false, true, false, false, false, false] rfl rfl (take_ofW HT_.out HW_.out (by kernel_rfl)) (fun _ _ _ h => h) (Or.inl ⟨by rfl, ?_⟩) hHeld ?_ ?_
   rotate_left
   ·rintro w' ⟨s0, s1, s2, s3, s4⟩
    go_simp
    with_reducible rfl
   rotate_left
   ·simp only [ps_]
    rfl
   refine take_ (i := 9) (N := some 17) (v := ?_) (a' := ?_) #[true, true, true, true, false, true, true, false, true, true, false, true, false, false, false, false] rfl rfl (take_ofW HT_.out HW_.out (by kernel_rfl)) (fun _ _ _ h => h) (Or.inl ⟨by rfl, ?_⟩) hHeld ?_ ?_
   rotate_left
   ·rintro w' ⟨s0, s1, s2, s3, s4⟩
    go_simp
    with_reducible rfl
   rotate_left
   ·simp only [ps_]
    rfl
   refine take_ (i := 12) (N := some 20) (v := ?_) (a' := ?_) #[true, true, true, true, false, true, true, false, true, true, false, true, true, false, false, false] rfl rfl (take_ofW HT_.out HW_.out (by kernel_rfl)) (fun _ _ _ h => h) (Or.inl ⟨by rfl, ?_⟩) hHeld ?_ ?_
   rotate_left
   ·rintro w' ⟨s0, s1, s2, s3, s4⟩
    go_simp
    with_reducible rfl
   rotate_left
   ·simp only [ps_]
    rfl
   refine oz 4 (some 12) HT_ (fun K hK => ?_)
   refine Kd.R_lit_step (Kd.int .u8) _ 5 ?hg (N := 12) ?hd (xs := ([a0_0, a0_1] : List Int)) (inner := [.int .u8 a0_0, .int .u8 a0_1]) (ok := fun _ => True) (okp := fun _ => True) ?hr ?hp (fun _ hk => hk) trivial (Below.refl _ _) (Nat.le_refl _) (by simp) ?_; (case hd => rfl); (case hg => rfl); (case hr => first | (go_simp; done) | (go_simp; rfl)); (case hp => exact (Reps.one (show Kd.M (Kd.int .u8) _ _ _ a0_0 [.int .u8 a0_0] from rfl) (Reps.one (show Kd.M (Kd.int .u8) _ _ _ a0_1 [.int .u8 a0_1] from rfl) (Reps.none _ _))))
   intro v440 w11 ho12 hb hg_ hnew_
   clear hg_ hnew_
   (first | rw [← Ny439.out] at ho12 | (simp only [Int.reduceToNat] at ho12; rw [← Ny439.out] at ho12))
   have n0_ := Aside0.mk (Kd.R_lower ho12 (below_size (bz HB)))
   have n1_ := Aside0.mk (blk_below (kz BK438) hb)
   have n2_ := Aside0.mk (below_step (bz HB) hb)
   clear BK438
   clear HB
   have HO441 := n0_
   have BK438 := n1_
   have HB := n2_
   clear n0_ n1_ n2_
   clear hb ho12
   obtain ⟨Ao13, co13, eo13⟩ := Kd.R_slice HO441.out
   (first | subst eo13 | (injection eo13 with f1_ f2_ f3_; have f4_ := f1_.symm; have f5_ := f3_.symm; clear f1_ f2_ f3_; subst f4_; subst f5_))
   refine hK.out _ _ ⟨cz BK438.out 0 rfl, cz BK438.out 1 rfl, cz BK438.out 2 rfl, cz BK438.out 3 rfl, cz BK438.out 4 rfl⟩ (fun hHeld => ?_)
   clear hK K
   refine nz 12 ?_
   refine oz 7 (some 15) HT_ (fun K hK => ?_)
   refine gG Try.func83 #[.slice Ao13 y439.length co13, .int .u16 a0_2] ?_
   with_reducible refine (lychref1_Put16.calls (fun k_ => some k_ = (.slice Ao13 y439.length co13 : Value).ownBlock) (.slice Ao13 y439.length co13) y439 a0_2 t442 w _ ?side1 ?side2 A5.out).mono ?_
   (case side1 => exact bz HB)
   (case side2 => exact Kd.R_tight rfl HO441.out)
   rintro e w14 ⟨v443, rfl, ho0, hb, hkp⟩
   refine ⟨_, rfl, ?_⟩
   have n0_ := Aside0.mk (blk_kept (kz BK438) hkp (fun hs_ => (fun e_ => (Kd.R_ne HO441.out BK438.out (by decide)) e_) hs_))
   have n1_ := Aside0.mk (Kd.R_mono (ok' := fun k_ => True) ho0 (fun k_ hk_ => trivial))
   have n2_ := Aside0.mk (hb)
   clear BK438
   clear HB
   clear HO441
   have BK438 := n0_
   have HO444 := n1_
   have HB := n2_
   clear n0_ n1_ n2_
   (try clear hb)
   (try clear hkp)
   (try clear ho0)
   obtain ⟨Ao15, co15, eo15⟩ := Kd.R_slice HO444.out
   (first | subst eo15 | (injection eo15 with f1_ f2_ f3_; have f4_ := f1_.symm; have f5_ := f3_.symm; clear f1_ f2_ f3_; subst f4_; subst f5_))
   refine hK.out _ _ ⟨cz BK438.out 0 rfl, cz BK438.out 1 rfl, cz BK438.out 2 rfl, cz BK438.out 3 rfl, cz BK438.out 4 rfl⟩ (fun hHeld => ?_)
   clear hK K
   refine nz 15 ?_
   refine oz 10 (some 18) HT_ (fun K hK => ?_)
   refine gG Try.func84 #[.slice Ao15 t442.length co15, .int .u32 a0_3] ?_
   with_reducible refine (lychref1_Put32.calls (fun k_ => some k_ = (.slice Ao15 t442.length co15 : Value).ownBlock) (.slice Ao15 t442.length co15) t442 a0_3 t445 w _ ?side1 ?side2 A6.out).mono ?_
   (case side1 => exact bz HB)
   (case side2 => exact Kd.R_tight rfl HO444.out)
   rintro e w16 ⟨v446, rfl, ho0, hb, hkp⟩
   refine ⟨_, rfl, ?_⟩
   have n0_ := Aside0.mk (blk_kept (kz BK438) hkp (fun hs_ => (fun e_ => (Kd.R_ne HO444.out BK438.out (by decide)) e_) hs_))
   have n1_ := Aside0.mk (Kd.R_mono (ok' := fun k_ => True) ho0 (fun k_ hk_ => trivial))
   have n2_ := Aside0.mk (hb)
   clear BK438
   clear HB
   clear HO444
   have BK438 := n0_
   have HO447 := n1_
   have HB := n2_
   clear n0_ n1_ n2_
   (try clear hb)
   (try clear hkp)
   (try clear ho0)
   refine hK.out _ _ ⟨cz BK438.out 0 rfl, cz BK438.out 1 rfl, cz BK438.out 2 rfl, cz BK438.out 3 rfl, cz BK438.out 4 rfl⟩ (fun hHeld => ?_)
   clear hK K
   refine nz 18 ?_
   refine oz 13 (some 21) HT_ (fun K hK => ?_)
   refine Kd.R_append_rows_step (Kd.int .u8) (w0 := w) w.heap.size (by rfl) (.tmp 18) (.tmp 20) 23 5 (.int .u8 0) 1 rfl Try.underlying23 info5 rfl (by decide) (by omega) v446 t445 l0_4 _ _ _ (fun _ => True) (fun _ => False) rfl rfl ?aO ?aR (fun _ _ h => h) (fun _ h => h.elim) ?aF ?aB ?aS ?aL ?_
   (case aR => exact Kd.C_below HR0_4.out (bz HB))
   (case aB => exact bz HB)
   (case aF => exact (fun _ _ => trivial))
   (case aO => exact (Kd.rz HO447))
   (case aS => exact (below_size (bz HB)))
   (case aL => have := LMc7.out; omega)
   intro v449 w17 ho hb hg hat
   rw [← Ny448.out] at ho
   have n0_ := Aside0.mk (blk_grown (kz BK438) hg (Kd.R_ne HO447.out BK438.out (by decide)))
   have n1_ := Aside0.mk (hb)
   have n2_ := Aside0.mk (ho)
   clear BK438
   clear HB
   clear HO447
   have BK438 := n0_
   have HB := n1_
   have HO450 := n2_
   clear n0_ n1_ n2_
   clear ho hb hg hat
   refine hK.out _ _ ⟨cz BK438.out 0 rfl, cz BK438.out 1 rfl, cz BK438.out 2 rfl, cz BK438.out 3 rfl, cz BK438.out 4 rfl⟩ (fun hHeld => ?_)
   clear hK K
   refine nz 21 ?_
   refine pz 14 2 HT_ ?_
   refine pz 15 3 HT_ ?_
   refine dz HT_ ?_
   try go_wp2
   go_ret2
   exact ⟨_, by first | rfl | (simp [errW_none, errW_some] <;> rfl) | (simp [*, errW_none, errW_some] <;> rfl), by (with_reducible repeat (first | apply Kd.R_alloc | apply Kd.R_drewN | apply Kd.R_drew)); exact HO450.out, bz HB⟩
  ·rw [if_neg c7] at H
   exact absurd H (by simp)
def lychref1_IcmpSum.f (k : Nat) (a0_0 : Int) (a0_1 : Int) (a0_2 : Int) (a0_3 : Int) (l0_4 : List Int) : Option (Int) := (lychref1_IcmpBytes.f a0_0 a0_1 0 a0_3 l0_4).bind fun bt452 => (if bt452.2 = 0 then ((lychref1_Of.f k bt452.1).bind fun t456 => (some t456)) else (some 0))
theorem lychref1_IcmpSum.calls (k : Nat) (a0_0 : Int) (a0_1 : Int) (a0_2 : Int) (a0_3 : Int) (A0_4 : Option Addr) (c0_4 : Nat) (l0_4 : List Int) (r : Int) (w : World) (hr0_4 : Kd.C (Kd.int .u8) w A0_4 l0_4.length l0_4) (hc0_4 : l0_4.length ≤ c0_4) (h : lychref1_IcmpSum.f k a0_0 a0_1 a0_2 a0_3 l0_4 = some r) :
  Calls Try.prog 54 #[.agg #[.int .u8 a0_0, .int .u8 a0_1, .int .u16 a0_2, .int .u32 a0_3, .slice A0_4 l0_4.length c0_4]] w fun e w' => e = .returned (.int .u16 r) ∧ Below w.heap.size w w' := by
 have hu101 := Try.underlying101
 have HR0_4 := Aside0.mk hr0_4
 have HC0_4 := Aside0.mk hc0_4
 clear hr0_4 hc0_4
 have HB := Aside0.mk (Below.refl w.heap.size w)
 have H : ((lychref1_IcmpBytes.f a0_0 a0_1 0 a0_3 l0_4).bind fun bt452 => (if bt452.2 = 0 then ((lychref1_Of.f k bt452.1).bind fun t456 => (some t456)) else (some 0))) = some r := h
 clear h
 replace H := Option.bind_eq_some_iff.mp H
 obtain ⟨⟨t452, t455⟩, A20, H⟩ := H
 replace H : (if t455 = 0 then ((lychref1_Of.f k t452).bind fun t456 => (some t456)) else (some 0)) = some r := H
 have A2 := Aside0.mk A20
 clear A20
 by_cases c3 : t455 = 0
 ·rw [if_pos c3] at H
  have c3b0 : (t455 == 0) = true := beq_iff_eq.mpr c3
  have c3b1 : (t455 != 0) = false := bne_eq_false_iff_eq.mpr c3
  clear c3
  replace H := Option.bind_eq_some_iff.mp H
  obtain ⟨t456, A40, H⟩ := H
  replace H : (some t456) = some r := H
  have A4 := Aside0.mk A40
  clear A40
  obtain rfl := Option.some.inj H
  go_enter Try.func54, Try.ntmps54
  go_wp2_with (first | ((with_reducible refine gate_dst (N := 1) rfl ?_); refine box_event ?hg (N := 1) ?hd (cs := #[.int .u8 a0_0, .int .u8 a0_1, .int .u16 a0_2, .int .u32 a0_3, .slice A0_4 l0_4.length c0_4]) (t := 101) ?hr ?_; (case hd => rfl); (case hg => rfl); (case hr => first | (go_simp; done) | (go_simp; rfl)); intro gb451 hg w5 hbox hb; have n0_ := Aside0.mk (below_step (bz HB) hb); have n1_ := Aside0.mk (hbox); have n2_ := Aside0.mk ((by rw [hg]; exact (below_size (bz HB)) : w.heap.size ≤ gb451)); have n3_ := Aside0.mk ((by rw [hg]; exact (below_size (bz HB)) : w.heap.size ≤ gb451)); clear HB; have HB := n0_; have BK451 := n1_; have GW451 := n2_; have GE451 := n3_; clear n0_ n1_ n2_ n3_; clear hb hbox hg; have hcz6_0 : w5.cell? ⟨gb451, 0, none⟩ = some (.int .u8 a0_0) := cz BK451.out 0 rfl; have hcz6_1 : w5.cell? ⟨gb451, 1, none⟩ = some (.int .u8 a0_1) := cz BK451.out 1 rfl; have hcz6_2 : w5.cell? ⟨gb451, 2, none⟩ = some (.int .u16 a0_2) := cz BK451.out 2 rfl; have hcz6_3 : w5.cell? ⟨gb451, 3, none⟩ = some (.int .u32 a0_3) := cz BK451.out 3 rfl; have hcz6_4 : w5.cell? ⟨gb451, 4, none⟩ = some (.slice A0_4 l0_4.length c0_4) := cz BK451.out 4 rfl; have hfz6_0 := blk_frozen BK451.out 0; have hfz6_1 := blk_frozen BK451.out 1; have hfz6_2 := blk_frozen BK451.out 2; have hfz6_3 := blk_frozen BK451.out 3; have hfz6_4 := blk_frozen BK451.out 4) | ((with_reducible refine gate_callee (f := 55) rfl ?_); refine gL 8 Try.func55 #[.agg #[.int .u8 a0_0, .int .u8 a0_1, .int .u16 0, .int .u32 a0_3, .slice A0_4 l0_4.length c0_4]] ?_; (with_reducible refine (lychref1_IcmpBytes.calls a0_0 a0_1 0 a0_3 _ _ l0_4 t452 t455 _ ?side1 ?side2 A2.out).mono ?_); (case side1 => exact Kd.C_below HR0_4.out (bz HB)); (case side2 => exact HC0_4.out); rintro e w7 ⟨v453, rfl, ho0, hb⟩; refine ⟨_, rfl, ?_⟩; have n0_ := Aside0.mk (Kd.R_lower ho0 (below_size (bz HB))); have n1_ := Aside0.mk (blk_below (g := gb451) (o := .cells #[.int .u8 a0_0, .int .u8 a0_1, .int .u16 0, .int .u32 a0_3, .slice A0_4 l0_4.length c0_4] 101 (0, 0)) (by (with_reducible repeat (first | refine blk_drewN ?_ _ | refine blk_drew ?_ | refine blk_alloc ?_ _)); refine blk_put (cs := #[.int .u8 a0_0, .int .u8 a0_1, .int .u16 a0_2, .int .u32 a0_3, .slice A0_4 l0_4.length c0_4]) ?_ 2 _ rfl; (with_reducible repeat (first | refine blk_drewN ?_ _ | refine blk_drew ?_ | refine blk_alloc ?_ _)); exact BK451.out) hb); have n2_ := Aside0.mk (below_step (bz HB) hb); clear BK451; clear HB; have HO454 := n0_; have BK451 := n1_; have HB := n2_; clear n0_ n1_ n2_; (try clear hb); (try clear hb2); (try clear hk); (try clear hi); (try clear ho0); obtain ⟨Ao8, co8, eo8⟩ := Kd.R_slice HO454.out; subst eo8) | ((with_reducible refine gate_callee (f := 85) rfl ?_); refine gL 14 Try.func85 #[.slice Ao8 t452.length co8] ?_; (with_reducible refine (lychref1_Of.calls k _ _ t452 t456 _ ?side1 ?side2 A4.out).mono ?_); (case side1 => repeat (first | exact (Kd.R_reads' HO454.out).2.2 | (with_reducible refine Kd.C_alloc ?_ _) | (with_reducible refine Kd.C_drewN ?_ _) | (with_reducible refine Kd.C_drew ?_))); (case side2 => exact (Kd.R_reads' HO454.out).2.1); rintro e w9 ⟨rfl, hb⟩; refine ⟨_, rfl, ?_⟩; have n0_ := Aside0.mk (Kd.R_below (Kd.rz HO454) hb); have n1_ := Aside0.mk (blk_below (kz BK451) hb); have n2_ := Aside0.mk (below_step (bz HB) hb); clear HO454; clear BK451; clear HB; have HO454 := n0_; have BK451 := n1_; have HB := n2_; clear n0_ n1_ n2_; (try clear hb); (try clear hb2); (try clear hk); (try clear hi)))
  go_ret
  exact ⟨by first | rfl | (simp [errW_none, errW_some] <;> rfl) | (simp [*, errW_none, errW_some] <;> rfl), bz HB⟩
 ·rw [if_neg c3] at H
  have c3b0 : (t455 == 0) = false := beq_eq_false_iff_ne.mpr c3
  have c3b1 : (t455 != 0) = true := bne_iff_ne.mpr c3
  obtain rfl := Option.some.inj H
  go_enter Try.func54, Try.ntmps54
  go_wp2_with (first | ((with_reducible refine gate_dst (N := 1) rfl ?_); refine box_event ?hg (N := 1) ?hd (cs := #[.int .u8 a0_0, .int .u8 a0_1, .int .u16 a0_2, .int .u32 a0_3, .slice A0_4 l0_4.length c0_4]) (t := 101) ?hr ?_; (case hd => rfl); (case hg => rfl); (case hr => first | (go_simp; done) | (go_simp; rfl)); intro gb451 hg w10 hbox hb; have n0_ := Aside0.mk (below_step (bz HB) hb); have n1_ := Aside0.mk (hbox); have n2_ := Aside0.mk ((by rw [hg]; exact (below_size (bz HB)) : w.heap.size ≤ gb451)); have n3_ := Aside0.mk ((by rw [hg]; exact (below_size (bz HB)) : w.heap.size ≤ gb451)); clear HB; have HB := n0_; have BK451 := n1_; have GW451 := n2_; have GE451 := n3_; clear n0_ n1_ n2_ n3_; clear hb hbox hg; have hcz11_0 : w10.cell? ⟨gb451, 0, none⟩ = some (.int .u8 a0_0) := cz BK451.out 0 rfl; have hcz11_1 : w10.cell? ⟨gb451, 1, none⟩ = some (.int .u8 a0_1) := cz BK451.out 1 rfl; have hcz11_2 : w10.cell? ⟨gb451, 2, none⟩ = some (.int .u16 a0_2) := cz BK451.out 2 rfl; have hcz11_3 : w10.cell? ⟨gb451, 3, none⟩ = some (.int .u32 a0_3) := cz BK451.out 3 rfl; have hcz11_4 : w10.cell? ⟨gb451, 4, none⟩ = some (.slice A0_4 l0_4.length c0_4) := cz BK451.out 4 rfl; have hfz11_0 := blk_frozen BK451.out 0; have hfz11_1 := blk_frozen BK451.out 1; have hfz11_2 := blk_frozen BK451.out 2; have hfz11_3 := blk_frozen BK451.out 3; have hfz11_4 := blk_frozen BK451.out 4) | ((with_reducible refine gate_callee (f := 55) rfl ?_); refine gL 8 Try.func55 #[.agg #[.int .u8 a0_0, .int .u8 a0_1, .int .u16 0, .int .u32 a0_3, .slice A0_4 l0_4.length c0_4]] ?_; (with_reducible refine (lychref1_IcmpBytes.calls a0_0 a0_1 0 a0_3 _ _ l0_4 t452 t455 _ ?side1 ?side2 A2.out).mono ?_); (case side1 => exact Kd.C_below HR0_4.out (bz HB)); (case side2 => exact HC0_4.out); rintro e w12 ⟨v453, rfl, ho0, hb⟩; refine ⟨_, rfl, ?_⟩; have n0_ := Aside0.mk (Kd.R_lower ho0 (below_size (bz HB))); have n1_ := Aside0.mk (blk_below (g := gb451) (o := .cells #[.int .u8 a0_0, .int .u8 a0_1, .int .u16 0, .int .u32 a0_3, .slice A0_4 l0_4.length c0_4] 101 (0, 0)) (by (with_reducible repeat (first | refine blk_drewN ?_ _ | refine blk_drew ?_ | refine blk_alloc ?_ _)); refine blk_put (cs := #[.int .u8 a0_0, .int .u8 a0_1, .int .u16 a0_2, .int .u32 a0_3, .slice A0_4 l0_4.length c0_4]) ?_ 2 _ rfl; (with_reducible repeat (first | refine blk_drewN ?_ _ | refine blk_drew ?_ | refine blk_alloc ?_ _)); exact BK451.out) hb); have n2_ := Aside0.mk (below_step (bz HB) hb); clear BK451; clear HB; have HO454 := n0_; have BK451 := n1_; have HB := n2_; clear n0_ n1_ n2_; (try clear hb); (try clear hb2); (try clear hk); (try clear hi); (try clear ho0)))
  go_ret
  exact ⟨by first | rfl | (simp [errW_none, errW_some] <;> rfl) | (simp [*, errW_none, errW_some] <;> rfl), bz HB⟩
def lychref1_UdpSum.f (k : Nat) (a0 : Int) (a1 : Int) (a2_0 : Int) (a2_1 : Int) (a2_2 : Int) (l2_3 : List Int) : Option (Int) := (lychref1_UdpBytes.f a2_0 a2_1 0 l2_3).bind fun bt458 => (if bt458.2 = 0 then ((lychref1_Pseudo.f k a0 a1 17 (bt458.1.length : Int)).bind fun t462 => ((lychref1_Add.f k t462 bt458.1).bind fun t463 => ((lychref1_Fold.f k t463).bind fun t464 => (if (Go.bits .xor .u16 IntKind.u16.max t464) = 0 then (some 65535) else (some (Go.bits .xor .u16 IntKind.u16.max t464)))))) else (some 0))
theorem lychref1_UdpSum.calls (k : Nat) (a0 : Int) (a1 : Int) (a2_0 : Int) (a2_1 : Int) (a2_2 : Int) (A2_3 : Option Addr) (c2_3 : Nat) (l2_3 : List Int) (r : Int) (w : World) (hr2_3 : Kd.C (Kd.int .u8) w A2_3 l2_3.length l2_3) (hc2_3 : l2_3.length ≤ c2_3) (h : lychref1_UdpSum.f k a0 a1 a2_0 a2_1 a2_2 l2_3 = some r) :
  Calls Try.prog 72 #[.int .u32 a0, .int .u32 a1, .agg #[.int .u16 a2_0, .int .u16 a2_1, .int .u16 a2_2, .slice A2_3 l2_3.length c2_3]] w fun e w' => e = .returned (.int .u16 r) ∧ Below w.heap.size w w' := by
 have hu83 := Try.underlying83
 have hsg_u16 : IntKind.u16.signed = false := rfl
 have HR2_3 := Aside0.mk hr2_3
 have HC2_3 := Aside0.mk hc2_3
 clear hr2_3 hc2_3
 have HB := Aside0.mk (Below.refl w.heap.size w)
 have H : ((lychref1_UdpBytes.f a2_0 a2_1 0 l2_3).bind fun bt458 => (if bt458.2 = 0 then ((lychref1_Pseudo.f k a0 a1 17 (bt458.1.length : Int)).bind fun t462 => ((lychref1_Add.f k t462 bt458.1).bind fun t463 => ((lychref1_Fold.f k t463).bind fun t464 => (if (Go.bits .xor .u16 IntKind.u16.max t464) = 0 then (some 65535) else (some (Go.bits .xor .u16 IntKind.u16.max t464)))))) else (some 0))) = some r := h
 clear h
 replace H := Option.bind_eq_some_iff.mp H
 obtain ⟨⟨t458, t461⟩, A40, H⟩ := H
 replace H : (if t461 = 0 then ((lychref1_Pseudo.f k a0 a1 17 (t458.length : Int)).bind fun t462 => ((lychref1_Add.f k t462 t458).bind fun t463 => ((lychref1_Fold.f k t463).bind fun t464 => (if (Go.bits .xor .u16 IntKind.u16.max t464) = 0 then (some 65535) else (some (Go.bits .xor .u16 IntKind.u16.max t464)))))) else (some 0)) = some r := H
 have A4 := Aside0.mk A40
 clear A40
 by_cases c5 : t461 = 0
 ·rw [if_pos c5] at H
  have c5b0 : (t461 == 0) = true := beq_iff_eq.mpr c5
  have c5b1 : (t461 != 0) = false := bne_eq_false_iff_eq.mpr c5
  clear c5
  replace H := Option.bind_eq_some_iff.mp H
  obtain ⟨t462, A60, H⟩ := H
  replace H : ((lychref1_Add.f k t462 t458).bind fun t463 => ((lychref1_Fold.f k t463).bind fun t464 => (if (Go.bits .xor .u16 IntKind.u16.max t464) = 0 then (some 65535) else (some (Go.bits .xor .u16 IntKind.u16.max t464))))) = some r := H
  have A6 := Aside0.mk A60
  clear A60
  replace H := Option.bind_eq_some_iff.mp H
  obtain ⟨t463, A70, H⟩ := H
  replace H : ((lychref1_Fold.f k t463).bind fun t464 => (if (Go.bits .xor .u16 IntKind.u16.max t464) = 0 then (some 65535) else (some (Go.bits .xor .u16 IntKind.u16.max t464)))) = some r := H
  have A7 := Aside0.mk A70
  clear A70
  replace H := Option.bind_eq_some_iff.mp H
  obtain ⟨t464, A80, H⟩ := H
  replace H : (if (Go.bits .xor .u16 IntKind.u16.max t464) = 0 then (some 65535) else (some (Go.bits .xor .u16 IntKind.u16.max t464))) = some r := H
  have A8 := Aside0.mk A80
  clear A80
  by_cases c9 : (Go.bits .xor .u16 IntKind.u16.max t464) = 0
  ·rw [if_pos c9] at H
   have c9b0 : ((Go.bits .xor .u16 IntKind.u16.max t464) == 0) = true := beq_iff_eq.mpr c9
   have c9b1 : ((Go.bits .xor .u16 IntKind.u16.max t464) != 0) = false := bne_eq_false_iff_eq.mpr c9
   clear c9
   obtain rfl := Option.some.inj H
   go_enter Try.func72, Try.ntmps72
   go_wp2_with (first | ((with_reducible refine gate_dst (N := 5) rfl ?_); refine box_event ?hg (N := 5) ?hd (cs := #[.int .u16 a2_0, .int .u16 a2_1, .int .u16 a2_2, .slice A2_3 l2_3.length c2_3]) (t := 83) ?hr ?_; (case hd => rfl); (case hg => rfl); (case hr => first | (go_simp; done) | (go_simp; rfl)); intro gb457 hg w10 hbox hb; have n0_ := Aside0.mk (below_step (bz HB) hb); have n1_ := Aside0.mk (hbox); have n2_ := Aside0.mk ((by rw [hg]; exact (below_size (bz HB)) : w.heap.size ≤ gb457)); have n3_ := Aside0.mk ((by rw [hg]; exact (below_size (bz HB)) : w.heap.size ≤ gb457)); clear HB; have HB := n0_; have BK457 := n1_; have GW457 := n2_; have GE457 := n3_; clear n0_ n1_ n2_ n3_; clear hb hbox hg; have hcz11_0 : w10.cell? ⟨gb457, 0, none⟩ = some (.int .u16 a2_0) := cz BK457.out 0 rfl; have hcz11_1 : w10.cell? ⟨gb457, 1, none⟩ = some (.int .u16 a2_1) := cz BK457.out 1 rfl; have hcz11_2 : w10.cell? ⟨gb457, 2, none⟩ = some (.int .u16 a2_2) := cz BK457.out 2 rfl; have hcz11_3 : w10.cell? ⟨gb457, 3, none⟩ = some (.slice A2_3 l2_3.length c2_3) := cz BK457.out 3 rfl; have hfz11_0 := blk_frozen BK457.out 0; have hfz11_1 := blk_frozen BK457.out 1; have hfz11_2 := blk_frozen BK457.out 2; have hfz11_3 := blk_frozen BK457.out 3) | ((with_reducible refine gate_callee (f := 48) rfl ?_); refine gL 13 Try.func48 #[.agg #[.int .u16 a2_0, .int .u16 a2_1, .int .u16 0, .slice A2_3 l2_3.length c2_3]] ?_; (with_reducible refine (lychref1_UdpBytes.calls a2_0 a2_1 0 _ _ l2_3 t458 t461 _ ?side1 ?side2 A4.out).mono ?_); (case side1 => exact Kd.C_below HR2_3.out (bz HB)); (case side2 => exact HC2_3.out); rintro e w12 ⟨v459, rfl, ho0, hb⟩; refine ⟨_, rfl, ?_⟩; have n0_ := Aside0.mk (Kd.R_lower ho0 (below_size (bz HB))); have n1_ := Aside0.mk (blk_below (g := gb457) (o := .cells #[.int .u16 a2_0, .int .u16 a2_1, .int .u16 0, .slice A2_3 l2_3.length c2_3] 83 (0, 0)) (by (with_reducible repeat (first | refine blk_drewN ?_ _ | refine blk_drew ?_ | refine blk_alloc ?_ _)); refine blk_put (cs := #[.int .u16 a2_0, .int .u16 a2_1, .int .u16 a2_2, .slice A2_3 l2_3.length c2_3]) ?_ 2 _ rfl; (with_reducible repeat (first | refine blk_drewN ?_ _ | refine blk_drew ?_ | refine blk_alloc ?_ _)); exact BK457.out) hb); have n2_ := Aside0.mk (below_step (bz HB) hb); clear BK457; clear HB; have HO460 := n0_; have BK457 := n1_; have HB := n2_; clear n0_ n1_ n2_; (try clear hb); (try clear hb2); (try clear hk); (try clear hi); (try clear ho0); obtain ⟨Ao13, co13, eo13⟩ := Kd.R_slice HO460.out; subst eo13) | ((with_reducible refine gate_callee (f := 82) rfl ?_); refine gL 22 Try.func82 #[.int .u32 a0, .int .u32 a1, .int .u8 17, .int .i64 (t458.length : Int)] ?_; (with_reducible refine (lychref1_Pseudo.calls k a0 a1 17 (t458.length : Int) t462 _ A6.out).mono ?_); rintro e w' ⟨rfl, ⟨nd, rfl⟩⟩; refine ⟨_, rfl, ?_⟩) | ((with_reducible refine gate_callee (f := 80) rfl ?_); refine gL 24 Try.func80 #[.int .u32 t462, .slice Ao13 t458.length co13] ?_; (with_reducible refine (lychref1_Add.calls k t462 _ _ t458 t463 _ ?side1 ?side2 A7.out).mono ?_); (case side1 => repeat (first | exact (Kd.R_reads' HO460.out).2.2 | (with_reducible refine Kd.C_alloc ?_ _) | (with_reducible refine Kd.C_drewN ?_ _) | (with_reducible refine Kd.C_drew ?_))); (case side2 => exact (Kd.R_reads' HO460.out).2.1); rintro e w14 ⟨rfl, hb⟩; refine ⟨_, rfl, ?_⟩; have n0_ := Aside0.mk (Kd.R_below (Kd.rz HO460) hb); have n1_ := Aside0.mk (blk_below (kz BK457) hb); have n2_ := Aside0.mk (below_step (bz HB) hb); clear HO460; clear BK457; clear HB; have HO460 := n0_; have BK457 := n1_; have HB := n2_; clear n0_ n1_ n2_; (try clear hb); (try clear hb2); (try clear hk); (try clear hi)) | ((with_reducible refine gate_callee (f := 79) rfl ?_); refine gL 25 Try.func79 #[.int .u32 t463] ?_; (with_reducible refine (lychref1_Fold.calls k t463 t464 _ A8.out).mono ?_); rintro e w' ⟨rfl, ⟨nd, rfl⟩⟩; refine ⟨_, rfl, ?_⟩))
   go_ret
   exact ⟨by first | rfl | (simp [errW_none, errW_some] <;> rfl) | (simp [*, errW_none, errW_some] <;> rfl), bz HB⟩
  ·rw [if_neg c9] at H
   have c9b0 : ((Go.bits .xor .u16 IntKind.u16.max t464) == 0) = false := beq_eq_false_iff_ne.mpr c9
   have c9b1 : ((Go.bits .xor .u16 IntKind.u16.max t464) != 0) = true := bne_iff_ne.mpr c9
   obtain rfl := Option.some.inj H
   go_enter Try.func72, Try.ntmps72
   go_wp2_with (first | ((with_reducible refine gate_dst (N := 5) rfl ?_); refine box_event ?hg (N := 5) ?hd (cs := #[.int .u16 a2_0, .int .u16 a2_1, .int .u16 a2_2, .slice A2_3 l2_3.length c2_3]) (t := 83) ?hr ?_; (case hd => rfl); (case hg => rfl); (case hr => first | (go_simp; done) | (go_simp; rfl)); intro gb457 hg w15 hbox hb; have n0_ := Aside0.mk (below_step (bz HB) hb); have n1_ := Aside0.mk (hbox); have n2_ := Aside0.mk ((by rw [hg]; exact (below_size (bz HB)) : w.heap.size ≤ gb457)); have n3_ := Aside0.mk ((by rw [hg]; exact (below_size (bz HB)) : w.heap.size ≤ gb457)); clear HB; have HB := n0_; have BK457 := n1_; have GW457 := n2_; have GE457 := n3_; clear n0_ n1_ n2_ n3_; clear hb hbox hg; have hcz16_0 : w15.cell? ⟨gb457, 0, none⟩ = some (.int .u16 a2_0) := cz BK457.out 0 rfl; have hcz16_1 : w15.cell? ⟨gb457, 1, none⟩ = some (.int .u16 a2_1) := cz BK457.out 1 rfl; have hcz16_2 : w15.cell? ⟨gb457, 2, none⟩ = some (.int .u16 a2_2) := cz BK457.out 2 rfl; have hcz16_3 : w15.cell? ⟨gb457, 3, none⟩ = some (.slice A2_3 l2_3.length c2_3) := cz BK457.out 3 rfl; have hfz16_0 := blk_frozen BK457.out 0; have hfz16_1 := blk_frozen BK457.out 1; have hfz16_2 := blk_frozen BK457.out 2; have hfz16_3 := blk_frozen BK457.out 3) | ((with_reducible refine gate_callee (f := 48) rfl ?_); refine gL 13 Try.func48 #[.agg #[.int .u16 a2_0, .int .u16 a2_1, .int .u16 0, .slice A2_3 l2_3.length c2_3]] ?_; (with_reducible refine (lychref1_UdpBytes.calls a2_0 a2_1 0 _ _ l2_3 t458 t461 _ ?side1 ?side2 A4.out).mono ?_); (case side1 => exact Kd.C_below HR2_3.out (bz HB)); (case side2 => exact HC2_3.out); rintro e w17 ⟨v459, rfl, ho0, hb⟩; refine ⟨_, rfl, ?_⟩; have n0_ := Aside0.mk (Kd.R_lower ho0 (below_size (bz HB))); have n1_ := Aside0.mk (blk_below (g := gb457) (o := .cells #[.int .u16 a2_0, .int .u16 a2_1, .int .u16 0, .slice A2_3 l2_3.length c2_3] 83 (0, 0)) (by (with_reducible repeat (first | refine blk_drewN ?_ _ | refine blk_drew ?_ | refine blk_alloc ?_ _)); refine blk_put (cs := #[.int .u16 a2_0, .int .u16 a2_1, .int .u16 a2_2, .slice A2_3 l2_3.length c2_3]) ?_ 2 _ rfl; (with_reducible repeat (first | refine blk_drewN ?_ _ | refine blk_drew ?_ | refine blk_alloc ?_ _)); exact BK457.out) hb); have n2_ := Aside0.mk (below_step (bz HB) hb); clear BK457; clear HB; have HO460 := n0_; have BK457 := n1_; have HB := n2_; clear n0_ n1_ n2_; (try clear hb); (try clear hb2); (try clear hk); (try clear hi); (try clear ho0); obtain ⟨Ao18, co18, eo18⟩ := Kd.R_slice HO460.out; subst eo18) | ((with_reducible refine gate_callee (f := 82) rfl ?_); refine gL 22 Try.func82 #[.int .u32 a0, .int .u32 a1, .int .u8 17, .int .i64 (t458.length : Int)] ?_; (with_reducible refine (lychref1_Pseudo.calls k a0 a1 17 (t458.length : Int) t462 _ A6.out).mono ?_); rintro e w' ⟨rfl, ⟨nd, rfl⟩⟩; refine ⟨_, rfl, ?_⟩) | ((with_reducible refine gate_callee (f := 80) rfl ?_); refine gL 24 Try.func80 #[.int .u32 t462, .slice Ao18 t458.length co18] ?_; (with_reducible refine (lychref1_Add.calls k t462 _ _ t458 t463 _ ?side1 ?side2 A7.out).mono ?_); (case side1 => repeat (first | exact (Kd.R_reads' HO460.out).2.2 | (with_reducible refine Kd.C_alloc ?_ _) | (with_reducible refine Kd.C_drewN ?_ _) | (with_reducible refine Kd.C_drew ?_))); (case side2 => exact (Kd.R_reads' HO460.out).2.1); rintro e w19 ⟨rfl, hb⟩; refine ⟨_, rfl, ?_⟩; have n0_ := Aside0.mk (Kd.R_below (Kd.rz HO460) hb); have n1_ := Aside0.mk (blk_below (kz BK457) hb); have n2_ := Aside0.mk (below_step (bz HB) hb); clear HO460; clear BK457; clear HB; have HO460 := n0_; have BK457 := n1_; have HB := n2_; clear n0_ n1_ n2_; (try clear hb); (try clear hb2); (try clear hk); (try clear hi)) | ((with_reducible refine gate_callee (f := 79) rfl ?_); refine gL 25 Try.func79 #[.int .u32 t463] ?_; (with_reducible refine (lychref1_Fold.calls k t463 t464 _ A8.out).mono ?_); rintro e w' ⟨rfl, ⟨nd, rfl⟩⟩; refine ⟨_, rfl, ?_⟩))
   go_ret
   exact ⟨by first | rfl | (simp [errW_none, errW_some] <;> rfl) | (simp [*, errW_none, errW_some] <;> rfl), bz HB⟩
 ·rw [if_neg c5] at H
  have c5b0 : (t461 == 0) = false := beq_eq_false_iff_ne.mpr c5
  have c5b1 : (t461 != 0) = true := bne_iff_ne.mpr c5
  obtain rfl := Option.some.inj H
  go_enter Try.func72, Try.ntmps72
  go_wp2_with (first | ((with_reducible refine gate_dst (N := 5) rfl ?_); refine box_event ?hg (N := 5) ?hd (cs := #[.int .u16 a2_0, .int .u16 a2_1, .int .u16 a2_2, .slice A2_3 l2_3.length c2_3]) (t := 83) ?hr ?_; (case hd => rfl); (case hg => rfl); (case hr => first | (go_simp; done) | (go_simp; rfl)); intro gb457 hg w20 hbox hb; have n0_ := Aside0.mk (below_step (bz HB) hb); have n1_ := Aside0.mk (hbox); have n2_ := Aside0.mk ((by rw [hg]; exact (below_size (bz HB)) : w.heap.size ≤ gb457)); have n3_ := Aside0.mk ((by rw [hg]; exact (below_size (bz HB)) : w.heap.size ≤ gb457)); clear HB; have HB := n0_; have BK457 := n1_; have GW457 := n2_; have GE457 := n3_; clear n0_ n1_ n2_ n3_; clear hb hbox hg; have hcz21_0 : w20.cell? ⟨gb457, 0, none⟩ = some (.int .u16 a2_0) := cz BK457.out 0 rfl; have hcz21_1 : w20.cell? ⟨gb457, 1, none⟩ = some (.int .u16 a2_1) := cz BK457.out 1 rfl; have hcz21_2 : w20.cell? ⟨gb457, 2, none⟩ = some (.int .u16 a2_2) := cz BK457.out 2 rfl; have hcz21_3 : w20.cell? ⟨gb457, 3, none⟩ = some (.slice A2_3 l2_3.length c2_3) := cz BK457.out 3 rfl; have hfz21_0 := blk_frozen BK457.out 0; have hfz21_1 := blk_frozen BK457.out 1; have hfz21_2 := blk_frozen BK457.out 2; have hfz21_3 := blk_frozen BK457.out 3) | ((with_reducible refine gate_callee (f := 48) rfl ?_); refine gL 13 Try.func48 #[.agg #[.int .u16 a2_0, .int .u16 a2_1, .int .u16 0, .slice A2_3 l2_3.length c2_3]] ?_; (with_reducible refine (lychref1_UdpBytes.calls a2_0 a2_1 0 _ _ l2_3 t458 t461 _ ?side1 ?side2 A4.out).mono ?_); (case side1 => exact Kd.C_below HR2_3.out (bz HB)); (case side2 => exact HC2_3.out); rintro e w22 ⟨v459, rfl, ho0, hb⟩; refine ⟨_, rfl, ?_⟩; have n0_ := Aside0.mk (Kd.R_lower ho0 (below_size (bz HB))); have n1_ := Aside0.mk (blk_below (g := gb457) (o := .cells #[.int .u16 a2_0, .int .u16 a2_1, .int .u16 0, .slice A2_3 l2_3.length c2_3] 83 (0, 0)) (by (with_reducible repeat (first | refine blk_drewN ?_ _ | refine blk_drew ?_ | refine blk_alloc ?_ _)); refine blk_put (cs := #[.int .u16 a2_0, .int .u16 a2_1, .int .u16 a2_2, .slice A2_3 l2_3.length c2_3]) ?_ 2 _ rfl; (with_reducible repeat (first | refine blk_drewN ?_ _ | refine blk_drew ?_ | refine blk_alloc ?_ _)); exact BK457.out) hb); have n2_ := Aside0.mk (below_step (bz HB) hb); clear BK457; clear HB; have HO460 := n0_; have BK457 := n1_; have HB := n2_; clear n0_ n1_ n2_; (try clear hb); (try clear hb2); (try clear hk); (try clear hi); (try clear ho0)))
  go_ret
  exact ⟨by first | rfl | (simp [errW_none, errW_some] <;> rfl) | (simp [*, errW_none, errW_some] <;> rfl), bz HB⟩
def lychref1_TcpBytes.j0 : Nat → Bool → Int → Int → Int → Int → Int → Int → Int → Int → List Int → List Int → Option (List Int × Int)
 | 0, _, _, _, _, _, _, _, _, _, _, _ => none
 | k + 1, x16, x466000, x466001, x466002, x466003, x466004, x466005, x466006, x466007, x466008, x466009 => if x16 = true then (some (([] : List Int), 21)) else (if (x466009.length : Int) > (wrap64 (65515 - (wrap64 (20 + (x466008.length : Int))))) then (some (([] : List Int), 23)) else ((lychref1_Put16.f ([] : List Int) x466000).bind fun t466 => ((lychref1_Put16.f t466 x466001).bind fun t469 => ((lychref1_Put32.f t469 x466002).bind fun t472 => ((lychref1_Put32.f t472 x466003).bind fun t475 => ((some (([(((wrap64 (Int.tdiv (wrap64 (20 + (x466008.length : Int))) 4)) % 256) * 16) % 256, x466004] : List Int) : List Int)).bind fun y478 => (if t475.length + y478.length < 140737488355328 then ((lychref1_Put16.f (t475 ++ y478) x466005).bind fun t484 => ((lychref1_Put16.f t484 x466006).bind fun t487 => ((lychref1_Put16.f t487 x466007).bind fun t490 => (if t490.length + x466008.length < 140737488355328 then ((some (t490 ++ x466008 : List Int)).bind fun y493 => (if y493.length + x466009.length < 140737488355328 then (some ((y493 ++ x466009), 0)) else (none))) else (none))))) else (none))))))))
def lychref1_TcpBytes.f (k : Nat) (a0_0 : Int) (a0_1 : Int) (a0_2 : Int) (a0_3 : Int) (a0_4 : Int) (a0_5 : Int) (a0_6 : Int) (a0_7 : Int) (l0_8 : List Int) (l0_9 : List Int) : Option (List Int × Int) := if ((l0_8.length : Int) % 4) = 0 then (lychref1_TcpBytes.j0 k (decide ((l0_8.length : Int) > 40)) a0_0 a0_1 a0_2 a0_3 a0_4 a0_5 a0_6 a0_7 l0_8 l0_9) else (lychref1_TcpBytes.j0 k true a0_0 a0_1 a0_2 a0_3 a0_4 a0_5 a0_6 a0_7 l0_8 l0_9)
def lychref1_TcpBytes.T6 : Bool × List (List Nat × List Nat) := (true, [([], []), ([0], [0]), ([1], [1]), ([], []), ([3], [3]), ([2, 4, 2], [2, 4]), ([], []), ([6], [6]), ([5, 7, 5], [5, 7]), ([], []), ([9], [9]), ([8, 10, 8], [8, 10]), ([11, 11, 0, 1, 2, 3, 4, 5, 6, 7, 8, 9, 10, 11], [11])])
def lychref1_TcpBytes.B6 : List Nat := [0, 1, 3, 0, 8, 31, 0, 64, 255, 0, 512, 2047, 4095]
theorem lychref1_TcpBytes.tab6 : rtab .any (opsOf Try.f75 6) = lychref1_TcpBytes.T6 := by kernel_rfl
theorem lychref1_TcpBytes.bits6 : waitsOk lychref1_TcpBytes.T6.2 lychref1_TcpBytes.B6 = true := by kernel_rfl
def lychref1_TcpBytes.T7 : Bool × List (List Nat × List Nat) := (true, [([], []), ([], []), ([1], [1]), ([2], [2]), ([3], [3]), ([], []), ([5], [5]), ([4, 6], [4, 6]), ([0, 7], [0, 7]), ([], []), ([9], [9]), ([8, 10, 8], [8, 10]), ([11, 11, 0, 1, 2, 3, 4, 5, 6, 7, 8, 9, 10, 11], [0, 11])])
def lychref1_TcpBytes.B7 : List Nat := [0, 0, 2, 6, 14, 0, 32, 126, 255, 0, 512, 2047, 4095]
theorem lychref1_TcpBytes.tab7 : rtab .any (opsOf Try.f75 7) = lychref1_TcpBytes.T7 := by kernel_rfl
theorem lychref1_TcpBytes.bits7 : waitsOk lychref1_TcpBytes.T7.2 lychref1_TcpBytes.B7 = true := by kernel_rfl
def lychref1_TcpBytes.T8 : Bool × List (List Nat × List Nat) := (true, [([], []), ([], []), ([1], [1]), ([0, 2], [0, 2]), ([], []), ([4], [4]), ([3, 5, 3], [3, 5]), ([6, 6, 0, 1, 2, 3, 4, 5, 6], [0, 6])])
def lychref1_TcpBytes.B8 : List Nat := [0, 0, 2, 7, 0, 16, 63, 127]
theorem lychref1_TcpBytes.tab8 : rtab .any (opsOf Try.f75 8) = lychref1_TcpBytes.T8 := by kernel_rfl
theorem lychref1_TcpBytes.bits8 : waitsOk lychref1_TcpBytes.T8.2 lychref1_TcpBytes.B8 = true := by kernel_rfl
def lychref1_TcpBytes.T9 : Bool × List (List Nat × List Nat) := (true, [([], []), ([], []), ([1], [1]), ([0, 2], [0, 2]), ([], []), ([4], [4]), ([3, 5, 3], [3, 5]), ([6, 6, 0, 1, 2, 3, 4, 5, 6], [6]), ([7, 0, 1, 2, 3, 4, 5, 6, 7], [])])
def lychref1_TcpBytes.B9 : List Nat := [0, 0, 2, 7, 0, 16, 63, 127, 255]
theorem lychref1_TcpBytes.tab9 : rtab .any (opsOf Try.f75 9) = lychref1_TcpBytes.T9 := by kernel_rfl
theorem lychref1_TcpBytes.bits9 : waitsOk lychref1_TcpBytes.T9.2 lychref1_TcpBytes.B9 = true := by kernel_rfl
theorem lychref1_TcpBytes.calls (k : Nat) (a0_0 : Int) (a0_1 : Int) (a0_2 : Int) (a0_3 : Int) (a0_4 : Int) (a0_5 : Int) (a0_6 : Int) (a0_7 : Int) (A0_8 : Option Addr) (c0_8 : Nat) (l0_8 : List Int) (A0_9 : Option Addr) (c0_9 : Nat) (l0_9 : List Int) (r1 : List Int) (r2 : Int) (w : World) (hr0_8 : Kd.C (Kd.int .u8) w A0_8 l0_8.length l0_8) (hc0_8 : l0_8.length ≤ c0_8) (hr0_9 : Kd.C (Kd.int .u8) w A0_9 l0_9.length l0_9) (hc0_9 : l0_9.length ≤ c0_9) (h : lychref1_TcpBytes.f k a0_0 a0_1 a0_2 a0_3 a0_4 a0_5 a0_6 a0_7 l0_8 l0_9 = some (r1, r2)) :
  Calls Try.prog 75 #[.agg #[.int .u16 a0_0, .int .u16 a0_1, .int .u32 a0_2, .int .u32 a0_3, .int .u8 a0_4, .int .u16 a0_5, .int .u16 a0_6, .int .u16 a0_7, .slice A0_8 l0_8.length c0_8, .slice A0_9 l0_9.length c0_9]] w fun e w' => ∃ v0_ : Value, e = .returned (.tuple #[v0_, .int .i64 r2]) ∧ Kd.R (Kd.int .u8) 5 w' w.heap.size (fun _ => True) v0_ r1 ∧ Below w.heap.size w w' := by
 have hu137 := Try.underlying137
 have HR0_8 := Aside0.mk hr0_8
 have HC0_8 := Aside0.mk hc0_8
 clear hr0_8 hc0_8
 have HR0_9 := Aside0.mk hr0_9
 have HC0_9 := Aside0.mk hc0_9
 clear hr0_9 hc0_9
 have HB := Aside0.mk (Below.refl w.heap.size w)
 have H : (if ((l0_8.length : Int) % 4) = 0 then (lychref1_TcpBytes.j0 k (decide ((l0_8.length : Int) > 40)) a0_0 a0_1 a0_2 a0_3 a0_4 a0_5 a0_6 a0_7 l0_8 l0_9) else (lychref1_TcpBytes.j0 k true a0_0 a0_1 a0_2 a0_3 a0_4 a0_5 a0_6 a0_7 l0_8 l0_9)) = some (r1, r2) := h
 clear h
 have HC2 := Aside0.mk H
 clear H
 go_enter Try.func75, Try.ntmps75
 go_upto_region 1 with (first | ((with_reducible refine gate_dst (N := 1) rfl ?_); (try (refine gate_guard (by rfl) ?_; dsimp only)); refine box_event ?hg (N := 1) ?hd (cs := #[.int .u16 a0_0, .int .u16 a0_1, .int .u32 a0_2, .int .u32 a0_3, .int .u8 a0_4, .int .u16 a0_5, .int .u16 a0_6, .int .u16 a0_7, .slice A0_8 l0_8.length c0_8, .slice A0_9 l0_9.length c0_9]) (t := 137) ?hr ?_; (case hd => rfl); (case hg => rfl); (case hr => first | (go_simp; done) | (go_simp; rfl)); intro gb465 hg w3 hbox hb; have n0_ := Aside0.mk (below_step (bz HB) hb); have n1_ := Aside0.mk (hbox); have n2_ := Aside0.mk ((by rw [hg]; exact (below_size (bz HB)) : w.heap.size ≤ gb465)); have n3_ := Aside0.mk ((by rw [hg]; exact (below_size (bz HB)) : w.heap.size ≤ gb465)); clear HB; have HB := n0_; have BK465 := n1_; have GW465 := n2_; have GE465 := n3_; clear n0_ n1_ n2_ n3_; clear hb hbox hg))
 (try simp only [Act.put, List.setIfInBounds_toArray, List.set_cons_zero, List.set_cons_succ])
 go_cut [16] (fun v16 wc => ∃ (kq : Nat) (x16_1 : Bool), v16 = .bool x16_1 ∧ Aside0 (lychref1_TcpBytes.j0 kq x16_1 a0_0 a0_1 a0_2 a0_3 a0_4 a0_5 a0_6 a0_7 l0_8 l0_9 = some (r1, r2)) ∧ Aside0 (kq ≤ k) ∧ Aside0 (wc.heap[gb465]? = some (.cells #[.int .u16 a0_0, .int .u16 a0_1, .int .u32 a0_2, .int .u32 a0_3, .int .u8 a0_4, .int .u16 a0_5, .int .u16 a0_6, .int .u16 a0_7, (.slice A0_8 l0_8.length c0_8), (.slice A0_9 l0_9.length c0_9)] 137 (0, 0))) ∧ Aside0 (Below w.heap.size w wc))
 case first =>
  have H := HC2.out
  clear HC2
  by_cases c4 : ((l0_8.length : Int) % 4) = 0
  ·rw [if_pos c4] at H
   have c4b0 : (((l0_8.length : Int) % 4) == 0) = true := beq_iff_eq.mpr c4
   have c4b1 : (((l0_8.length : Int) % 4) != 0) = false := bne_eq_false_iff_eq.mpr c4
   clear c4
   (first | rw [c4b0] | (simp only [i64_w, i32_w]; rw [c4b0]) | skip)
   have H' := Aside0.mk H
   clear H
   have hcz5_0_ := cs10 BK465.out
   have hfz5_0_ := blk_frozen BK465.out
   go_wp2
   go_meet
   case rel => exact ⟨_, (decide ((l0_8.length : Int) > 40)), (by first | rfl | (simp; done) | (simp [*]; done)), H', ⟨by first | omega | exact Nat.le_refl _⟩, ⟨kz BK465⟩, ⟨bz HB⟩⟩
  ·rw [if_neg c4] at H
   have c4b0 : (((l0_8.length : Int) % 4) == 0) = false := beq_eq_false_iff_ne.mpr c4
   have c4b1 : (((l0_8.length : Int) % 4) != 0) = true := bne_iff_ne.mpr c4
   (first | rw [c4b0] | (simp only [i64_w, i32_w]; rw [c4b0]) | skip)
   have H' := Aside0.mk H
   clear H
   have hcz6_0_ := cs10 BK465.out
   have hfz6_0_ := blk_frozen BK465.out
   go_wp2
   go_meet
   case rel => exact ⟨_, (true), (by first | rfl | (simp; done) | (simp [*]; done)), H', ⟨by first | omega | exact Nat.le_refl _⟩, ⟨kz BK465⟩, ⟨bz HB⟩⟩
 case rest =>
  clear HC2
  obtain ⟨kq, x16_1, rfl, HA, HJ1, BK465, HB⟩ := hcut
  cases kq with
  | zero => exact absurd HA.out (by simp [lychref1_TcpBytes.j0])
  | succ kj1 =>
   have H := HA.out
   clear HA
   simp only [lychref1_TcpBytes.j0] at H
   by_cases c7 : x16_1 = true
   ·subst c7
    have H1 : (some (([] : List Int), 21)) = some (r1, r2) := by rw [if_pos rfl] at H; exact H
    clear H
    have H := H1
    clear H1
    simp only [Option.some.injEq, Prod.mk.injEq] at H
    obtain ⟨rfl, rfl⟩ := H
    go_wp2
    go_ret2
    exact ⟨_, by first | rfl | (simp [errW_none, errW_some] <;> rfl) | (simp [*, errW_none, errW_some] <;> rfl), by first | exact Kd.R_nil _ _ _ _ _ | exact Kd.N_nil _ _ _ _ _ | exact Kd.V_nil _ _ _ _ _ | exact Kd.Q_nil _ _ _ _ _ | exact Kd.S_nil _ _ _ _ _, bz HB⟩
   ·replace c7 := Bool.eq_false_iff.mpr c7
    subst c7
    have H1 : (if (l0_9.length : Int) > (wrap64 (65515 - (wrap64 (20 + (l0_8.length : Int))))) then (some (([] : List Int), 23)) else ((lychref1_Put16.f ([] : List Int) a0_0).bind fun t466 => ((lychref1_Put16.f t466 a0_1).bind fun t469 => ((lychref1_Put32.f t469 a0_2).bind fun t472 => ((lychref1_Put32.f t472 a0_3).bind fun t475 => ((some (([(((wrap64 (Int.tdiv (wrap64 (20 + (l0_8.length : Int))) 4)) % 256) * 16) % 256, a0_4] : List Int) : List Int)).bind fun y478 => (if t475.length + y478.length < 140737488355328 then ((lychref1_Put16.f (t475 ++ y478) a0_5).bind fun t484 => ((lychref1_Put16.f t484 a0_6).bind fun t487 => ((lychref1_Put16.f t487 a0_7).bind fun t490 => (if t490.length + l0_8.length < 140737488355328 then ((some (t490 ++ l0_8 : List Int)).bind fun y493 => (if y493.length + l0_9.length < 140737488355328 then (some ((y493 ++ l0_9), 0)) else (none))) else (none))))) else (none)))))))) = some (r1, r2) := by rw [if_neg (show ¬ (false = true) by decide)] at H; exact H
    clear H
    have H := H1
    clear H1
    by_cases c8 : (l0_9.length : Int) > (wrap64 (65515 - (wrap64 (20 + (l0_8.length : Int)))))
    ·rw [if_pos c8] at H
     have c8b0 : decide ((wrap64 (65515 - (wrap64 (20 + (l0_8.length : Int))))) < (l0_9.length : Int)) = true := decide_eq_true c8
     clear c8
     simp only [Option.some.injEq, Prod.mk.injEq] at H
     obtain ⟨rfl, rfl⟩ := H
     have hcz9_0_ := cs10 BK465.out
     have hfz9_0_ := blk_frozen BK465.out
     go_wp2
     go_ret2
     exact ⟨_, by first | rfl | (simp [errW_none, errW_some] <;> rfl) | (simp [*, errW_none, errW_some] <;> rfl), by first | exact Kd.R_nil _ _ _ _ _ | exact Kd.N_nil _ _ _ _ _ | exact Kd.V_nil _ _ _ _ _ | exact Kd.Q_nil _ _ _ _ _ | exact Kd.S_nil _ _ _ _ _, bz HB⟩
    ·rw [if_neg c8] at H
     have c8b0 : decide ((wrap64 (65515 - (wrap64 (20 + (l0_8.length : Int))))) < (l0_9.length : Int)) = false := decide_eq_false c8
     clear c8
     replace H := Option.bind_eq_some_iff.mp H
     obtain ⟨t466, A100, H⟩ := H
     replace H : ((lychref1_Put16.f t466 a0_1).bind fun t469 => ((lychref1_Put32.f t469 a0_2).bind fun t472 => ((lychref1_Put32.f t472 a0_3).bind fun t475 => ((some (([(((wrap64 (Int.tdiv (wrap64 (20 + (l0_8.length : Int))) 4)) % 256) * 16) % 256, a0_4] : List Int) : List Int)).bind fun y478 => (if t475.length + y478.length < 140737488355328 then ((lychref1_Put16.f (t475 ++ y478) a0_5).bind fun t484 => ((lychref1_Put16.f t484 a0_6).bind fun t487 => ((lychref1_Put16.f t487 a0_7).bind fun t490 => (if t490.length + l0_8.length < 140737488355328 then ((some (t490 ++ l0_8 : List Int)).bind fun y493 => (if y493.length + l0_9.length < 140737488355328 then (some ((y493 ++ l0_9), 0)) else (none))) else (none))))) else (none)))))) = some (r1, r2) := H
     have A10 := Aside0.mk A100
     clear A100
     replace H := Option.bind_eq_some_iff.mp H
     obtain ⟨t469, A110, H⟩ := H
     replace H : ((lychref1_Put32.f t469 a0_2).bind fun t472 => ((lychref1_Put32.f t472 a0_3).bind fun t475 => ((some (([(((wrap64 (Int.tdiv (wrap64 (20 + (l0_8.length : Int))) 4)) % 256) * 16) % 256, a0_4] : List Int) : List Int)).bind fun y478 => (if t475.length + y478.length < 140737488355328 then ((lychref1_Put16.f (t475 ++ y478) a0_5).bind fun t484 => ((lychref1_Put16.f t484 a0_6).bind fun t487 => ((lychref1_Put16.f t487 a0_7).bind fun t490 => (if t490.length + l0_8.length < 140737488355328 then ((some (t490 ++ l0_8 : List Int)).bind fun y493 => (if y493.length + l0_9.length < 140737488355328 then (some ((y493 ++ l0_9), 0)) else (none))) else (none))))) else (none))))) = some (r1, r2) := H
     have A11 := Aside0.mk A110
     clear A110
     replace H := Option.bind_eq_some_iff.mp H
     obtain ⟨t472, A120, H⟩ := H
     replace H : ((lychref1_Put32.f t472 a0_3).bind fun t475 => ((some (([(((wrap64 (Int.tdiv (wrap64 (20 + (l0_8.length : Int))) 4)) % 256) * 16) % 256, a0_4] : List Int) : List Int)).bind fun y478 => (if t475.length + y478.length < 140737488355328 then ((lychref1_Put16.f (t475 ++ y478) a0_5).bind fun t484 => ((lychref1_Put16.f t484 a0_6).bind fun t487 => ((lychref1_Put16.f t487 a0_7).bind fun t490 => (if t490.length + l0_8.length < 140737488355328 then ((some (t490 ++ l0_8 : List Int)).bind fun y493 => (if y493.length + l0_9.length < 140737488355328 then (some ((y493 ++ l0_9), 0)) else (none))) else (none))))) else (none)))) = some (r1, r2) := H
     have A12 := Aside0.mk A120
     clear A120
     replace H := Option.bind_eq_some_iff.mp H
     obtain ⟨t475, A130, H⟩ := H
     replace H : ((some (([(((wrap64 (Int.tdiv (wrap64 (20 + (l0_8.length : Int))) 4)) % 256) * 16) % 256, a0_4] : List Int) : List Int)).bind fun y478 => (if t475.length + y478.length < 140737488355328 then ((lychref1_Put16.f (t475 ++ y478) a0_5).bind fun t484 => ((lychref1_Put16.f t484 a0_6).bind fun t487 => ((lychref1_Put16.f t487 a0_7).bind fun t490 => (if t490.length + l0_8.length < 140737488355328 then ((some (t490 ++ l0_8 : List Int)).bind fun y493 => (if y493.length + l0_9.length < 140737488355328 then (some ((y493 ++ l0_9), 0)) else (none))) else (none))))) else (none))) = some (r1, r2) := H
     have A13 := Aside0.mk A130
     clear A130
     obtain ⟨y478, hy478⟩ : ∃ y_ : List Int, y_ = (([(((wrap64 (Int.tdiv (wrap64 (20 + (l0_8.length : Int))) 4)) % 256) * 16) % 256, a0_4] : List Int)) := ⟨_, rfl⟩
     replace H : (if t475.length + y478.length < 140737488355328 then ((lychref1_Put16.f (t475 ++ y478) a0_5).bind fun t484 => ((lychref1_Put16.f t484 a0_6).bind fun t487 => ((lychref1_Put16.f t487 a0_7).bind fun t490 => (if t490.length + l0_8.length < 140737488355328 then ((some (t490 ++ l0_8 : List Int)).bind fun y493 => (if y493.length + l0_9.length < 140737488355328 then (some ((y493 ++ l0_9), 0)) else (none))) else (none))))) else (none)) = some (r1, r2) := by first | (rw [hy478]; with_reducible exact H) | (have H2_ := (Option.bind_some _ _).symm.trans H; rw [hy478]; with_reducible exact H2_) | (have H2_ := (Option.bind_some _ _).symm.trans H; with_reducible exact H2_) | with_reducible exact H | (rw [hy478]; exact H) | exact H
     have Ny478 := Aside0.mk hy478
     clear hy478
     by_cases c14 : t475.length + y478.length < 140737488355328
     ·rw [if_pos c14] at H
      have LMc14 := Aside0.mk c14
      clear c14
      obtain ⟨y481, hy481⟩ : ∃ y_ : List Int, y_ = (t475 ++ y478) := ⟨_, rfl⟩
      replace H : ((lychref1_Put16.f y481 a0_5).bind fun t484 => ((lychref1_Put16.f t484 a0_6).bind fun t487 => ((lychref1_Put16.f t487 a0_7).bind fun t490 => (if t490.length + l0_8.length < 140737488355328 then ((some (t490 ++ l0_8 : List Int)).bind fun y493 => (if y493.length + l0_9.length < 140737488355328 then (some ((y493 ++ l0_9), 0)) else (none))) else (none))))) = some (r1, r2) := by first | (rw [hy481]; with_reducible exact H) | (have H2_ := (Option.bind_some _ _).symm.trans H; rw [hy481]; with_reducible exact H2_) | (have H2_ := (Option.bind_some _ _).symm.trans H; with_reducible exact H2_) | with_reducible exact H | (rw [hy481]; exact H) | exact H
      have Ny481 := Aside0.mk hy481
      clear hy481
      replace H := Option.bind_eq_some_iff.mp H
      obtain ⟨t484, A150, H⟩ := H
      replace H : ((lychref1_Put16.f t484 a0_6).bind fun t487 => ((lychref1_Put16.f t487 a0_7).bind fun t490 => (if t490.length + l0_8.length < 140737488355328 then ((some (t490 ++ l0_8 : List Int)).bind fun y493 => (if y493.length + l0_9.length < 140737488355328 then (some ((y493 ++ l0_9), 0)) else (none))) else (none)))) = some (r1, r2) := H
      have A15 := Aside0.mk A150
      clear A150
      replace H := Option.bind_eq_some_iff.mp H
      obtain ⟨t487, A160, H⟩ := H
      replace H : ((lychref1_Put16.f t487 a0_7).bind fun t490 => (if t490.length + l0_8.length < 140737488355328 then ((some (t490 ++ l0_8 : List Int)).bind fun y493 => (if y493.length + l0_9.length < 140737488355328 then (some ((y493 ++ l0_9), 0)) else (none))) else (none))) = some (r1, r2) := H
      have A16 := Aside0.mk A160
      clear A160
      replace H := Option.bind_eq_some_iff.mp H
      obtain ⟨t490, A170, H⟩ := H
      replace H : (if t490.length + l0_8.length < 140737488355328 then ((some (t490 ++ l0_8 : List Int)).bind fun y493 => (if y493.length + l0_9.length < 140737488355328 then (some ((y493 ++ l0_9), 0)) else (none))) else (none)) = some (r1, r2) := H
      have A17 := Aside0.mk A170
      clear A170
      by_cases c18 : t490.length + l0_8.length < 140737488355328
      ·rw [if_pos c18] at H
       have LMc18 := Aside0.mk c18
       clear c18
       obtain ⟨y493, hy493⟩ : ∃ y_ : List Int, y_ = (t490 ++ l0_8) := ⟨_, rfl⟩
       replace H : (if y493.length + l0_9.length < 140737488355328 then (some ((y493 ++ l0_9), 0)) else (none)) = some (r1, r2) := by first | (rw [hy493]; with_reducible exact H) | (have H2_ := (Option.bind_some _ _).symm.trans H; rw [hy493]; with_reducible exact H2_) | (have H2_ := (Option.bind_some _ _).symm.trans H; with_reducible exact H2_) | with_reducible exact H | (rw [hy493]; exact H) | exact H
       have Ny493 := Aside0.mk hy493
       clear hy493
       by_cases c19 : y493.length + l0_9.length < 140737488355328
       ·rw [if_pos c19] at H
        have LMc19 := Aside0.mk c19
        clear c19
        obtain ⟨y496, hy496⟩ : ∃ y_ : List Int, y_ = (y493 ++ l0_9) := ⟨_, rfl⟩
        replace H : (some (y496, 0)) = some (r1, r2) := by first | (rw [hy496]; with_reducible exact H) | (have H2_ := (Option.bind_some _ _).symm.trans H; rw [hy496]; with_reducible exact H2_) | (have H2_ := (Option.bind_some _ _).symm.trans H; with_reducible exact H2_) | with_reducible exact H | (rw [hy496]; exact H) | exact H
        have Ny496 := Aside0.mk hy496
        clear hy496
        simp only [Option.some.injEq, Prod.mk.injEq] at H
        obtain ⟨rfl, rfl⟩ := H
        have hcz20_0_ := cs10 BK465.out
        have hfz20_0_ := blk_frozen BK465.out
        try go_wp2
        have n0_ := Aside0.mk (blk_drew BK465.out)
        have n1_ := Aside0.mk (below_drew1 HB.out)
        clear BK465
        clear HB
        have BK465 := n0_
        have HB := n1_
        clear n0_ n1_
        refine start_ (n := 13) (S := fun w' => w'.cell? ⟨gb465, 0, none⟩ = some (.int .u16 a0_0) ∧ w'.cell? ⟨gb465, 1, none⟩ = some (.int .u16 a0_1) ∧ w'.cell? ⟨gb465, 2, none⟩ = some (.int .u32 a0_2) ∧ w'.cell? ⟨gb465, 3, none⟩ = some (.int .u32 a0_3) ∧ w'.cell? ⟨gb465, 4, none⟩ = some (.int .u8 a0_4) ∧ w'.cell? ⟨gb465, 5, none⟩ = some (.int .u16 a0_5) ∧ w'.cell? ⟨gb465, 6, none⟩ = some (.int .u16 a0_6) ∧ w'.cell? ⟨gb465, 7, none⟩ = some (.int .u16 a0_7) ∧ w'.cell? ⟨gb465, 8, none⟩ = some (.slice A0_8 l0_8.length c0_8) ∧ w'.cell? ⟨gb465, 9, none⟩ = some (.slice A0_9 l0_9.length c0_9)) (ds := []) #[false, false, false, false, false, false, false, false, false, false, false, false, false] (by kernel_rfl) rfl rfl ⟨cz BK465.out 0 rfl, cz BK465.out 1 rfl, cz BK465.out 2 rfl, cz BK465.out 3 rfl, cz BK465.out 4 rfl, cz BK465.out 5 rfl, cz BK465.out 6 rfl, cz BK465.out 7 rfl, cz BK465.out 8 rfl, cz BK465.out 9 rfl⟩ (fun hHeld => ?_); refine with_tabW lychref1_TcpBytes.tab6 lychref1_TcpBytes.bits6 (fun HT_ HW_ => ?_)
        generalize wc.drew = w21 at BK465 HB hHeld ⊢
        refine pz 0 27 HT_ ?_
        refine pz 3 30 HT_ ?_
        refine pz 6 33 HT_ ?_
        refine pz 9 36 HT_ ?_
        refine take_ (i := 1) (N := some 28) (v := ?_) (a' := ?_) #[true, true, false, true, false, false, true, false, false, true, false, false, false] rfl rfl (take_ofW HT_.out HW_.out (by kernel_rfl)) (fun _ _ _ h => h) (Or.inl ⟨by rfl, ?_⟩) hHeld ?_ ?_
        rotate_left
        ·rintro w' ⟨s0, s1, s2, s3, s4, s5, s6, s7, s8, s9⟩
         go_simp
         with_reducible rfl
        rotate_left
        ·simp only [ps_]
         rfl
        refine take_ (i := 4) (N := some 31) (v := ?_) (a' := ?_) #[true, true, false, true, true, false, true, false, false, true, false, false, false] rfl rfl (take_ofW HT_.out HW_.out (by kernel_rfl)) (fun _ _ _ h => h) (Or.inl ⟨by rfl, ?_⟩) hHeld ?_ ?_
        rotate_left
        ·rintro w' ⟨s0, s1, s2, s3, s4, s5, s6, s7, s8, s9⟩
         go_simp
         with_reducible rfl
        rotate_left
        ·simp only [ps_]
         rfl
        refine take_ (i := 7) (N := some 34) (v := ?_) (a' := ?_) #[true, true, false, true, true, false, true, true, false, true, false, false, false] rfl rfl (take_ofW HT_.out HW_.out (by kernel_rfl)) (fun _ _ _ h => h) (Or.inl ⟨by rfl, ?_⟩) hHeld ?_ ?_
        rotate_left
        ·rintro w' ⟨s0, s1, s2, s3, s4, s5, s6, s7, s8, s9⟩
         go_simp
         with_reducible rfl
        rotate_left
        ·simp only [ps_]
         rfl
        refine take_ (i := 10) (N := some 37) (v := ?_) (a' := ?_) #[true, true, false, true, true, false, true, true, false, true, true, false, false] rfl rfl (take_ofW HT_.out HW_.out (by kernel_rfl)) (fun _ _ _ h => h) (Or.inl ⟨by rfl, ?_⟩) hHeld ?_ ?_
        rotate_left
        ·rintro w' ⟨s0, s1, s2, s3, s4, s5, s6, s7, s8, s9⟩
         go_simp
         with_reducible rfl
        rotate_left
        ·simp only [ps_]
         rfl
        refine oz 2 (some 29) HT_ (fun K hK => ?_)
        refine gG Try.func83 #[.slice none 0 0, .int .u16 a0_0] ?_
        refine (lychref1_Put16.calls (fun k_ => some k_ = (.slice none 0 0 : Value).ownBlock) (.slice none 0 0) ([] : List Int) a0_0 t466 w _ ?side1 ?side2 A10.out).mono ?_
        (case side1 => exact bz HB)
        (case side2 => exact Kd.R_nil _ _ _ _ _)
        rintro e w22 ⟨v467, rfl, ho0, hb, hkp⟩
        refine ⟨_, rfl, ?_⟩
        have n0_ := Aside0.mk (blk_kept (kz BK465) hkp (fun hs_ => (fun e_ => by simp [Value.ownBlock] at e_) hs_))
        have n1_ := Aside0.mk (Kd.R_mono (ok' := fun k_ => True) ho0 (fun k_ hk_ => trivial))
        have n2_ := Aside0.mk (hb)
        clear BK465
        clear HB
        have BK465 := n0_
        have HO468 := n1_
        have HB := n2_
        clear n0_ n1_ n2_
        (try clear hb)
        (try clear hkp)
        (try clear ho0)
        obtain ⟨Ao23, co23, eo23⟩ := Kd.R_slice HO468.out
        (first | subst eo23 | (injection eo23 with f1_ f2_ f3_; have f4_ := f1_.symm; have f5_ := f3_.symm; clear f1_ f2_ f3_; subst f4_; subst f5_))
        refine hK.out _ _ ⟨cz BK465.out 0 rfl, cz BK465.out 1 rfl, cz BK465.out 2 rfl, cz BK465.out 3 rfl, cz BK465.out 4 rfl, cz BK465.out 5 rfl, cz BK465.out 6 rfl, cz BK465.out 7 rfl, cz BK465.out 8 rfl, cz BK465.out 9 rfl⟩ (fun hHeld => ?_)
        clear hK K
        refine nz 29 ?_
        refine oz 5 (some 32) HT_ (fun K hK => ?_)
        refine gG Try.func83 #[.slice Ao23 t466.length co23, .int .u16 a0_1] ?_
        with_reducible refine (lychref1_Put16.calls (fun k_ => some k_ = (.slice Ao23 t466.length co23 : Value).ownBlock) (.slice Ao23 t466.length co23) t466 a0_1 t469 w _ ?side1 ?side2 A11.out).mono ?_
        (case side1 => exact bz HB)
        (case side2 => exact Kd.R_tight rfl HO468.out)
        rintro e w24 ⟨v470, rfl, ho0, hb, hkp⟩
        refine ⟨_, rfl, ?_⟩
        have n0_ := Aside0.mk (blk_kept (kz BK465) hkp (fun hs_ => (fun e_ => (Kd.R_ne HO468.out BK465.out (by decide)) e_) hs_))
        have n1_ := Aside0.mk (Kd.R_mono (ok' := fun k_ => True) ho0 (fun k_ hk_ => trivial))
        have n2_ := Aside0.mk (hb)
        clear BK465
        clear HB
        clear HO468
        have BK465 := n0_
        have HO471 := n1_
        have HB := n2_
        clear n0_ n1_ n2_
        (try clear hb)
        (try clear hkp)
        (try clear ho0)
        obtain ⟨Ao25, co25, eo25⟩ := Kd.R_slice HO471.out
        (first | subst eo25 | (injection eo25 with f1_ f2_ f3_; have f4_ := f1_.symm; have f5_ := f3_.symm; clear f1_ f2_ f3_; subst f4_; subst f5_))
        refine hK.out _ _ ⟨cz BK465.out 0 rfl, cz BK465.out 1 rfl, cz BK465.out 2 rfl, cz BK465.out 3 rfl, cz BK465.out 4 rfl, cz BK465.out 5 rfl, cz BK465.out 6 rfl, cz BK465.out 7 rfl, cz BK465.out 8 rfl, cz BK465.out 9 rfl⟩ (fun hHeld => ?_)
        clear hK K
        refine nz 32 ?_
        refine oz 8 (some 35) HT_ (fun K hK => ?_)
        refine gG Try.func84 #[.slice Ao25 t469.length co25, .int .u32 a0_2] ?_
        with_reducible refine (lychref1_Put32.calls (fun k_ => some k_ = (.slice Ao25 t469.length co25 : Value).ownBlock) (.slice Ao25 t469.length co25) t469 a0_2 t472 w _ ?side1 ?side2 A12.out).mono ?_
        (case side1 => exact bz HB)
        (case side2 => exact Kd.R_tight rfl HO471.out)
        rintro e w26 ⟨v473, rfl, ho0, hb, hkp⟩
        refine ⟨_, rfl, ?_⟩
        have n0_ := Aside0.mk (blk_kept (kz BK465) hkp (fun hs_ => (fun e_ => (Kd.R_ne HO471.out BK465.out (by decide)) e_) hs_))
        have n1_ := Aside0.mk (Kd.R_mono (ok' := fun k_ => True) ho0 (fun k_ hk_ => trivial))
        have n2_ := Aside0.mk (hb)
        clear BK465
        clear HB
        clear HO471
        have BK465 := n0_
        have HO474 := n1_
        have HB := n2_
        clear n0_ n1_ n2_
        (try clear hb)
        (try clear hkp)
        (try clear ho0)
        obtain ⟨Ao27, co27, eo27⟩ := Kd.R_slice HO474.out
        (first | subst eo27 | (injection eo27 with f1_ f2_ f3_; have f4_ := f1_.symm; have f5_ := f3_.symm; clear f1_ f2_ f3_; subst f4_; subst f5_))
        refine hK.out _ _ ⟨cz BK465.out 0 rfl, cz BK465.out 1 rfl, cz BK465.out 2 rfl, cz BK465.out 3 rfl, cz BK465.out 4 rfl, cz BK465.out 5 rfl, cz BK465.out 6 rfl, cz BK465.out 7 rfl, cz BK465.out 8 rfl, cz BK465.out 9 rfl⟩ (fun hHeld => ?_)
        clear hK K
        refine nz 35 ?_
        refine oz 11 (some 38) HT_ (fun K hK => ?_)
        refine gG Try.func84 #[.slice Ao27 t472.length co27, .int .u32 a0_3] ?_
        with_reducible refine (lychref1_Put32.calls (fun k_ => some k_ = (.slice Ao27 t472.length co27 : Value).ownBlock) (.slice Ao27 t472.length co27) t472 a0_3 t475 w _ ?side1 ?side2 A13.out).mono ?_
        (case side1 => exact bz HB)
        (case side2 => exact Kd.R_tight rfl HO474.out)
        rintro e w28 ⟨v476, rfl, ho0, hb, hkp⟩
        refine ⟨_, rfl, ?_⟩
        have n0_ := Aside0.mk (blk_kept (kz BK465) hkp (fun hs_ => (fun e_ => (Kd.R_ne HO474.out BK465.out (by decide)) e_) hs_))
        have n1_ := Aside0.mk (Kd.R_mono (ok' := fun k_ => True) ho0 (fun k_ hk_ => trivial))
        have n2_ := Aside0.mk (hb)
        clear BK465
        clear HB
        clear HO474
        have BK465 := n0_
        have HO477 := n1_
        have HB := n2_
        clear n0_ n1_ n2_
        (try clear hb)
        (try clear hkp)
        (try clear ho0)
        refine hK.out _ _ ⟨cz BK465.out 0 rfl, cz BK465.out 1 rfl, cz BK465.out 2 rfl, cz BK465.out 3 rfl, cz BK465.out 4 rfl, cz BK465.out 5 rfl, cz BK465.out 6 rfl, cz BK465.out 7 rfl, cz BK465.out 8 rfl, cz BK465.out 9 rfl⟩ (fun hHeld => ?_)
        clear hK K
        refine nz 38 ?_
        refine pz 12 5 HT_ ?_
        refine dz HT_ ?_
        try go_wp2
        have n0_ := Aside0.mk (Kd.R_drew HO477.out)
        have n1_ := Aside0.mk (blk_drew BK465.out)
        have n2_ := Aside0.mk (below_drew1 HB.out)
        clear HO477
        clear BK465
        clear HB
        have HO477 := n0_
        have BK465 := n1_
        have HB := n2_
        clear n0_ n1_ n2_
        refine start_ (n := 13) (S := fun w' => w'.cell? ⟨gb465, 0, none⟩ = some (.int .u16 a0_0) ∧ w'.cell? ⟨gb465, 1, none⟩ = some (.int .u16 a0_1) ∧ w'.cell? ⟨gb465, 2, none⟩ = some (.int .u32 a0_2) ∧ w'.cell? ⟨gb465, 3, none⟩ = some (.int .u32 a0_3) ∧ w'.cell? ⟨gb465, 4, none⟩ = some (.int .u8 a0_4) ∧ w'.cell? ⟨gb465, 5, none⟩ = some (.int .u16 a0_5) ∧ w'.cell? ⟨gb465, 6, none⟩ = some (.int .u16 a0_6) ∧ w'.cell? ⟨gb465, 7, none⟩ = some (.int .u16 a0_7) ∧ w'.cell? ⟨gb465, 8, none⟩ = some (.slice A0_8 l0_8.length c0_8) ∧ w'.cell? ⟨gb465, 9, none⟩ = some (.slice A0_9 l0_9.length c0_9)) (ds := []) #[false, false, false, false, false, false, false, false, false, false, false, false, false] (by kernel_rfl) rfl rfl ⟨cz BK465.out 0 rfl, cz BK465.out 1 rfl, cz BK465.out 2 rfl, cz BK465.out 3 rfl, cz BK465.out 4 rfl, cz BK465.out 5 rfl, cz BK465.out 6 rfl, cz BK465.out 7 rfl, cz BK465.out 8 rfl, cz BK465.out 9 rfl⟩ (fun hHeld => ?_); refine with_tabW lychref1_TcpBytes.tab7 lychref1_TcpBytes.bits7 (fun HT_ HW_ => ?_)
        generalize w28.drew = w29 at HO477 BK465 HB hHeld ⊢
        refine pz 0 39 HT_ ?_
        refine pz 1 40 HT_ ?_
        refine pz 2 41 HT_ ?_
        refine pz 3 42 HT_ ?_
        refine pz 4 43 HT_ ?_
        refine pz 5 44 HT_ ?_
        refine pz 9 48 HT_ ?_
        refine take_ (i := 6) (N := some 45) (v := ?_) (a' := ?_) #[true, true, true, true, true, true, true, false, false, true, false, false, false] rfl rfl (take_ofW HT_.out HW_.out (by kernel_rfl)) (fun _ _ _ h => h) (Or.inl ⟨by rfl, ?_⟩) hHeld ?_ ?_
        rotate_left
        ·rintro w' ⟨s0, s1, s2, s3, s4, s5, s6, s7, s8, s9⟩
         go_simp
         with_reducible rfl
        rotate_left
        ·simp only [ps_]
         rfl
        refine take_ (i := 10) (N := some 49) (v := ?_) (a' := ?_) #[true, true, true, true, true, true, true, false, false, true, true, false, false] rfl rfl (take_ofW HT_.out HW_.out (by kernel_rfl)) (fun _ _ _ h => h) (Or.inl ⟨by rfl, ?_⟩) hHeld ?_ ?_
        rotate_left
        ·rintro w' ⟨s0, s1, s2, s3, s4, s5, s6, s7, s8, s9⟩
         go_simp
         with_reducible rfl
        rotate_left
        ·simp only [ps_]
         rfl
        refine oz 7 (some 46) HT_ (fun K hK => ?_)
        refine Kd.R_lit_step (Kd.int .u8) _ 5 ?hg (N := 46) ?hd (xs := ([(((wrap64 (Int.tdiv (wrap64 (20 + (l0_8.length : Int))) 4)) % 256) * 16) % 256, a0_4] : List Int)) (inner := [.int .u8 ((((wrap64 (Int.tdiv (wrap64 (20 + (l0_8.length : Int))) 4)) % 256) * 16) % 256), .int .u8 a0_4]) (ok := fun _ => True) (okp := fun _ => True) ?hr ?hp (fun _ hk => hk) trivial (Below.refl _ _) (Nat.le_refl _) (by simp) ?_; (case hd => rfl); (case hg => rfl); (case hr => first | (go_simp; done) | (go_simp; simp only [IntKind.wrap_u8, IntKind.wrap_u16, IntKind.wrap_u32]; done) | (go_simp; rfl)); (case hp => exact (Reps.one (show Kd.M (Kd.int .u8) _ _ _ ((((wrap64 (Int.tdiv (wrap64 (20 + (l0_8.length : Int))) 4)) % 256) * 16) % 256) [.int .u8 ((((wrap64 (Int.tdiv (wrap64 (20 + (l0_8.length : Int))) 4)) % 256) * 16) % 256)] from rfl) (Reps.one (show Kd.M (Kd.int .u8) _ _ _ a0_4 [.int .u8 a0_4] from rfl) (Reps.none _ _))))
        intro v479 w30 ho31 hb hg_ hnew_
        clear hg_ hnew_
        (first | rw [← Ny478.out] at ho31 | (simp only [Int.reduceToNat] at ho31; rw [← Ny478.out] at ho31))
        have n0_ := Aside0.mk (Kd.R_elder' (Kd.rz HO477) (Kd.R_base ho31) hb)
        have n1_ := Aside0.mk (Kd.R_lower (Kd.R_new' ho31 (Kd.R_lt (Kd.rz HO477))) (below_size (bz HB)))
        have n2_ := Aside0.mk (blk_below (kz BK465) hb)
        have n3_ := Aside0.mk (below_step (bz HB) hb)
        clear HO477
        clear BK465
        clear HB
        have HO477 := n0_
        have HO480 := n1_
        have BK465 := n2_
        have HB := n3_
        clear n0_ n1_ n2_ n3_
        clear hb ho31
        obtain ⟨Ao33, co33, eo33⟩ := Kd.R_slice HO480.out
        (first | subst eo33 | (injection eo33 with f1_ f2_ f3_; have f4_ := f1_.symm; have f5_ := f3_.symm; clear f1_ f2_ f3_; subst f4_; subst f5_))
        refine hK.out _ _ ⟨cz BK465.out 0 rfl, cz BK465.out 1 rfl, cz BK465.out 2 rfl, cz BK465.out 3 rfl, cz BK465.out 4 rfl, cz BK465.out 5 rfl, cz BK465.out 6 rfl, cz BK465.out 7 rfl, cz BK465.out 8 rfl, cz BK465.out 9 rfl⟩ (fun hHeld => ?_)
        clear hK K
        refine nz 46 ?_
        refine oz 8 (some 47) HT_ (fun K hK => ?_)
        refine Kd.R_append_rows_step (Kd.int .u8) (w0 := w) w.heap.size (by rfl) (.tmp 39) (.tmp 46) 23 5 (.int .u8 0) 1 rfl Try.underlying23 info5 rfl (by decide) (by omega) v476 t475 y478 _ _ _ (fun k_ => some k_ ≠ (.slice Ao33 y478.length co33 : Value).ownBlock) (fun _ => False) rfl rfl ?aO ?aR (fun _ _ h => h) (fun _ h => h.elim) ?aF ?aB ?aS ?aL ?_
        (case aR => repeat (first | exact (Kd.R_reads' HO480.out).2.2 | (with_reducible refine Kd.C_alloc ?_ _) | (with_reducible refine Kd.C_drewN ?_ _) | (with_reducible refine Kd.C_drew ?_)))
        (case aB => exact bz HB)
        (case aF => exact (fun k_ hk => Kd.fresh' (Kd.R_lt (Kd.rz HO480)) k_ hk))
        (case aO => exact (by (with_reducible repeat (first | apply Kd.R_alloc | apply Kd.R_drewN | apply Kd.R_drew)); exact Kd.R_mono HO477.out (fun _ hk => hk.2)))
        (case aS => exact (below_size (bz HB)))
        (case aL => have := LMc14.out; omega)
        intro v482 w32 ho hb hg hat
        rw [← Ny481.out] at ho
        have n0_ := Aside0.mk (blk_grown (kz BK465) hg (Kd.R_ne HO477.out BK465.out (by decide)))
        have n1_ := Aside0.mk (Kd.R_after (ok := (fun _ => True)) (Kd.rz HO480) hg hat)
        have n2_ := Aside0.mk (hb)
        have n3_ := Aside0.mk (ho)
        clear BK465
        clear HO480
        clear HB
        clear HO477
        have BK465 := n0_
        have HO480 := n1_
        have HB := n2_
        have HO483 := n3_
        clear n0_ n1_ n2_ n3_
        clear ho hb hg hat
        obtain ⟨Ao34, co34, eo34⟩ := Kd.R_slice HO483.out
        (first | subst eo34 | (injection eo34 with f1_ f2_ f3_; have f4_ := f1_.symm; have f5_ := f3_.symm; clear f1_ f2_ f3_; subst f4_; subst f5_))
        refine hK.out _ _ ⟨cz BK465.out 0 rfl, cz BK465.out 1 rfl, cz BK465.out 2 rfl, cz BK465.out 3 rfl, cz BK465.out 4 rfl, cz BK465.out 5 rfl, cz BK465.out 6 rfl, cz BK465.out 7 rfl, cz BK465.out 8 rfl, cz BK465.out 9 rfl⟩ (fun hHeld => ?_)
        clear hK K
        refine nz 47 ?_
        refine oz 11 (some 50) HT_ (fun K hK => ?_)
        refine gG Try.func83 #[.slice Ao34 y481.length co34, .int .u16 a0_5] ?_
        with_reducible refine (lychref1_Put16.calls (fun k_ => some k_ = (.slice Ao34 y481.length co34 : Value).ownBlock) (.slice Ao34 y481.length co34) y481 a0_5 t484 w _ ?side1 ?side2 A15.out).mono ?_
        (case side1 => exact bz HB)
        (case side2 => exact Kd.R_tight rfl HO483.out)
        rintro e w35 ⟨v485, rfl, ho0, hb, hkp⟩
        refine ⟨_, rfl, ?_⟩
        have n0_ := Aside0.mk (blk_kept (kz BK465) hkp (fun hs_ => (fun e_ => (Kd.R_ne HO483.out BK465.out (by decide)) e_) hs_))
        have n1_ := Aside0.mk (Kd.R_mono (ok' := fun k_ => some k_ ≠ (v485 : Value).ownBlock) (Kd.R_keptB (HO480.out) hkp (fun k_ hk_ hs_ => (hk_.2) hs_)) (fun k_ hk_ => fun e_ => Or.elim (ho0.1 k_ e_.symm) (fun hs_ => hk_.2.1 hs_) (fun hn_ => Nat.not_le.2 hk_.2.2 hn_)))
        have n2_ := Aside0.mk (Kd.R_mono (ok' := fun k_ => some k_ ≠ (.slice Ao33 y478.length co33 : Value).ownBlock) ho0 (fun k_ hk_ => Or.elim hk_ (fun hs_ => fun e_ => (((HO480.out).1 k_ e_.symm).2) hs_) (fun hn_ => (Kd.fresh' (Kd.R_lt (Kd.rz HO480)) k_ hn_))))
        have n3_ := Aside0.mk (hb)
        clear BK465
        clear HO480
        clear HB
        clear HO483
        have BK465 := n0_
        have HO480 := n1_
        have HO486 := n2_
        have HB := n3_
        clear n0_ n1_ n2_ n3_
        (try clear hb)
        (try clear hkp)
        (try clear ho0)
        refine hK.out _ _ ⟨cz BK465.out 0 rfl, cz BK465.out 1 rfl, cz BK465.out 2 rfl, cz BK465.out 3 rfl, cz BK465.out 4 rfl, cz BK465.out 5 rfl, cz BK465.out 6 rfl, cz BK465.out 7 rfl, cz BK465.out 8 rfl, cz BK465.out 9 rfl⟩ (fun hHeld => ?_)
        clear hK K
        refine nz 50 ?_
        refine pz 12 5 HT_ ?_
        refine dz HT_ ?_
        try go_wp2
        have n0_ := Aside0.mk (Kd.R_drew HO480.out)
        have n1_ := Aside0.mk (Kd.R_drew HO486.out)
        have n2_ := Aside0.mk (blk_drew BK465.out)
        have n3_ := Aside0.mk (below_drew1 HB.out)
        clear HO480
        clear HO486
        clear BK465
        clear HB
        have HO480 := n0_
        have HO486 := n1_
        have BK465 := n2_
        have HB := n3_
        clear n0_ n1_ n2_ n3_
        obtain ⟨Ao37, co37, eo37⟩ := Kd.R_slice HO486.out
        (first | subst eo37 | (injection eo37 with f1_ f2_ f3_; have f4_ := f1_.symm; have f5_ := f3_.symm; clear f1_ f2_ f3_; subst f4_; subst f5_))
        refine start_ (n := 8) (S := fun w' => w'.cell? ⟨gb465, 0, none⟩ = some (.int .u16 a0_0) ∧ w'.cell? ⟨gb465, 1, none⟩ = some (.int .u16 a0_1) ∧ w'.cell? ⟨gb465, 2, none⟩ = some (.int .u32 a0_2) ∧ w'.cell? ⟨gb465, 3, none⟩ = some (.int .u32 a0_3) ∧ w'.cell? ⟨gb465, 4, none⟩ = some (.int .u8 a0_4) ∧ w'.cell? ⟨gb465, 5, none⟩ = some (.int .u16 a0_5) ∧ w'.cell? ⟨gb465, 6, none⟩ = some (.int .u16 a0_6) ∧ w'.cell? ⟨gb465, 7, none⟩ = some (.int .u16 a0_7) ∧ w'.cell? ⟨gb465, 8, none⟩ = some (.slice A0_8 l0_8.length c0_8) ∧ w'.cell? ⟨gb465, 9, none⟩ = some (.slice A0_9 l0_9.length c0_9)) (ds := []) #[false, false, false, false, false, false, false, false] (by kernel_rfl) rfl rfl ⟨cz BK465.out 0 rfl, cz BK465.out 1 rfl, cz BK465.out 2 rfl, cz BK465.out 3 rfl, cz BK465.out 4 rfl, cz BK465.out 5 rfl, cz BK465.out 6 rfl, cz BK465.out 7 rfl, cz BK465.out 8 rfl, cz BK465.out 9 rfl⟩ (fun hHeld => ?_); refine with_tabW lychref1_TcpBytes.tab8 lychref1_TcpBytes.bits8 (fun HT_ HW_ => ?_)
        generalize w35.drew = w36 at HO480 HO486 BK465 HB hHeld ⊢
        refine pz 0 51 HT_ ?_
        refine pz 1 52 HT_ ?_
        refine pz 4 55 HT_ ?_
        refine take_ (i := 2) (N := some 53) (v := ?_) (a' := ?_) #[true, true, true, false, true, false, false, false] rfl rfl (take_ofW HT_.out HW_.out (by kernel_rfl)) (fun _ _ _ h => h) (Or.inl ⟨by rfl, ?_⟩) hHeld ?_ ?_
        rotate_left
        ·rintro w' ⟨s0, s1, s2, s3, s4, s5, s6, s7, s8, s9⟩
         go_simp
         with_reducible rfl
        rotate_left
        ·simp only [ps_]
         rfl
        refine take_ (i := 5) (N := some 56) (v := ?_) (a' := ?_) #[true, true, true, false, true, true, false, false] rfl rfl (take_ofW HT_.out HW_.out (by kernel_rfl)) (fun _ _ _ h => h) (Or.inl ⟨by rfl, ?_⟩) hHeld ?_ ?_
        rotate_left
        ·rintro w' ⟨s0, s1, s2, s3, s4, s5, s6, s7, s8, s9⟩
         go_simp
         with_reducible rfl
        rotate_left
        ·simp only [ps_]
         rfl
        refine oz 3 (some 54) HT_ (fun K hK => ?_)
        refine gG Try.func83 #[.slice Ao37 t484.length co37, .int .u16 a0_6] ?_
        with_reducible refine (lychref1_Put16.calls (fun k_ => some k_ = (.slice Ao37 t484.length co37 : Value).ownBlock) (.slice Ao37 t484.length co37) t484 a0_6 t487 w _ ?side1 ?side2 A16.out).mono ?_
        (case side1 => exact bz HB)
        (case side2 => exact Kd.R_tight rfl HO486.out)
        rintro e w38 ⟨v488, rfl, ho0, hb, hkp⟩
        refine ⟨_, rfl, ?_⟩
        have n0_ := Aside0.mk (blk_kept (kz BK465) hkp (fun hs_ => (fun e_ => (Kd.R_ne HO486.out BK465.out (by decide)) e_) hs_))
        have n1_ := Aside0.mk (Kd.R_mono (ok' := fun k_ => some k_ ≠ (v488 : Value).ownBlock) (Kd.R_keptB (HO480.out) hkp (fun k_ hk_ hs_ => (hk_) hs_)) (fun k_ hk_ => fun e_ => Or.elim (ho0.1 k_ e_.symm) (fun hs_ => hk_.2.1 hs_) (fun hn_ => Nat.not_le.2 hk_.2.2 hn_)))
        have n2_ := Aside0.mk (Kd.R_mono (ok' := fun k_ => some k_ ≠ (.slice Ao33 y478.length co33 : Value).ownBlock) ho0 (fun k_ hk_ => Or.elim hk_ (fun hs_ => fun e_ => (((HO480.out).1 k_ e_.symm)) hs_) (fun hn_ => (Kd.fresh' (Kd.R_lt (Kd.rz HO480)) k_ hn_))))
        have n3_ := Aside0.mk (hb)
        clear BK465
        clear HO480
        clear HB
        clear HO486
        have BK465 := n0_
        have HO480 := n1_
        have HO489 := n2_
        have HB := n3_
        clear n0_ n1_ n2_ n3_
        (try clear hb)
        (try clear hkp)
        (try clear ho0)
        obtain ⟨Ao39, co39, eo39⟩ := Kd.R_slice HO489.out
        (first | subst eo39 | (injection eo39 with f1_ f2_ f3_; have f4_ := f1_.symm; have f5_ := f3_.symm; clear f1_ f2_ f3_; subst f4_; subst f5_))
        refine hK.out _ _ ⟨cz BK465.out 0 rfl, cz BK465.out 1 rfl, cz BK465.out 2 rfl, cz BK465.out 3 rfl, cz BK465.out 4 rfl, cz BK465.out 5 rfl, cz BK465.out 6 rfl, cz BK465.out 7 rfl, cz BK465.out 8 rfl, cz BK465.out 9 rfl⟩ (fun hHeld => ?_)
        clear hK K
        refine nz 54 ?_
        refine oz 6 (some 57) HT_ (fun K hK => ?_)
        refine gG Try.func83 #[.slice Ao39 t487.length co39, .int .u16 a0_7] ?_
        with_reducible refine (lychref1_Put16.calls (fun k_ => some k_ = (.slice Ao39 t487.length co39 : Value).ownBlock) (.slice Ao39 t487.length co39) t487 a0_7 t490 w _ ?side1 ?side2 A17.out).mono ?_
        (case side1 => exact bz HB)
        (case side2 => exact Kd.R_tight rfl HO489.out)
        rintro e w40 ⟨v491, rfl, ho0, hb, hkp⟩
        refine ⟨_, rfl, ?_⟩
        have n0_ := Aside0.mk (blk_kept (kz BK465) hkp (fun hs_ => (fun e_ => (Kd.R_ne HO489.out BK465.out (by decide)) e_) hs_))
        have n1_ := Aside0.mk (Kd.R_mono (ok' := fun k_ => some k_ ≠ (v491 : Value).ownBlock) (Kd.R_keptB (HO480.out) hkp (fun k_ hk_ hs_ => (hk_) hs_)) (fun k_ hk_ => fun e_ => Or.elim (ho0.1 k_ e_.symm) (fun hs_ => hk_.2.1 hs_) (fun hn_ => Nat.not_le.2 hk_.2.2 hn_)))
        have n2_ := Aside0.mk (Kd.R_mono (ok' := fun k_ => some k_ ≠ (.slice Ao33 y478.length co33 : Value).ownBlock) ho0 (fun k_ hk_ => Or.elim hk_ (fun hs_ => fun e_ => (((HO480.out).1 k_ e_.symm)) hs_) (fun hn_ => (Kd.fresh' (Kd.R_lt (Kd.rz HO480)) k_ hn_))))
        have n3_ := Aside0.mk (hb)
        clear BK465
        clear HO480
        clear HB
        clear HO489
        have BK465 := n0_
        have HO480 := n1_
        have HO492 := n2_
        have HB := n3_
        clear n0_ n1_ n2_ n3_
        (try clear hb)
        (try clear hkp)
        (try clear ho0)
        refine hK.out _ _ ⟨cz BK465.out 0 rfl, cz BK465.out 1 rfl, cz BK465.out 2 rfl, cz BK465.out 3 rfl, cz BK465.out 4 rfl, cz BK465.out 5 rfl, cz BK465.out 6 rfl, cz BK465.out 7 rfl, cz BK465.out 8 rfl, cz BK465.out 9 rfl⟩ (fun hHeld => ?_)
        clear hK K
        refine nz 57 ?_
        refine pz 7 5 HT_ ?_
        refine dz HT_ ?_
        try go_wp2
        have n0_ := Aside0.mk (Kd.R_drew HO480.out)
        have n1_ := Aside0.mk (Kd.R_drew HO492.out)
        have n2_ := Aside0.mk (blk_drew BK465.out)
        have n3_ := Aside0.mk (below_drew1 HB.out)
        clear HO480
        clear HO492
        clear BK465
        clear HB
        have HO480 := n0_
        have HO492 := n1_
        have BK465 := n2_
        have HB := n3_
        clear n0_ n1_ n2_ n3_
        refine start_ (n := 9) (S := fun w' => w'.cell? ⟨gb465, 0, none⟩ = some (.int .u16 a0_0) ∧ w'.cell? ⟨gb465, 1, none⟩ = some (.int .u16 a0_1) ∧ w'.cell? ⟨gb465, 2, none⟩ = some (.int .u32 a0_2) ∧ w'.cell? ⟨gb465, 3, none⟩ = some (.int .u32 a0_3) ∧ w'.cell? ⟨gb465, 4, none⟩ = some (.int .u8 a0_4) ∧ w'.cell? ⟨gb465, 5, none⟩ = some (.int .u16 a0_5) ∧ w'.cell? ⟨gb465, 6, none⟩ = some (.int .u16 a0_6) ∧ w'.cell? ⟨gb465, 7, none⟩ = some (.int .u16 a0_7) ∧ w'.cell? ⟨gb465, 8, none⟩ = some (.slice A0_8 l0_8.length c0_8) ∧ w'.cell? ⟨gb465, 9, none⟩ = some (.slice A0_9 l0_9.length c0_9)) (ds := []) #[false, false, false, false, false, false, false, false, false] (by kernel_rfl) rfl rfl ⟨cz BK465.out 0 rfl, cz BK465.out 1 rfl, cz BK465.out 2 rfl, cz BK465.out 3 rfl, cz BK465.out 4 rfl, cz BK465.out 5 rfl, cz BK465.out 6 rfl, cz BK465.out 7 rfl, cz BK465.out 8 rfl, cz BK465.out 9 rfl⟩ (fun hHeld => ?_); refine with_tabW lychref1_TcpBytes.tab9 lychref1_TcpBytes.bits9 (fun HT_ HW_ => ?_)
        generalize w40.drew = w41 at HO480 HO492 BK465 HB hHeld ⊢
        refine pz 0 58 HT_ ?_
        refine pz 1 59 HT_ ?_
        refine pz 4 62 HT_ ?_
        refine take_ (i := 2) (N := some 60) (v := ?_) (a' := ?_) #[true, true, true, false, true, false, false, false, false] rfl rfl (take_ofW HT_.out HW_.out (by kernel_rfl)) (fun _ _ _ h => h) (Or.inl ⟨by rfl, ?_⟩) hHeld ?_ ?_
        rotate_left
        ·rintro w' ⟨s0, s1, s2, s3, s4, s5, s6, s7, s8, s9⟩
         go_simp
         with_reducible rfl
        rotate_left
        ·simp only [ps_]
         rfl
        refine take_ (i := 5) (N := some 63) (v := ?_) (a' := ?_) #[true, true, true, false, true, true, false, false, false] rfl rfl (take_ofW HT_.out HW_.out (by kernel_rfl)) (fun _ _ _ h => h) (Or.inl ⟨by rfl, ?_⟩) hHeld ?_ ?_
        rotate_left
        ·rintro w' ⟨s0, s1, s2, s3, s4, s5, s6, s7, s8, s9⟩
         go_simp
         with_reducible rfl
        rotate_left
        ·simp only [ps_]
         rfl
        refine oz 3 (some 61) HT_ (fun K hK => ?_)
        refine Kd.R_append_rows_step (Kd.int .u8) (w0 := w) w.heap.size (by rfl) (.tmp 58) (.tmp 60) 23 5 (.int .u8 0) 1 rfl Try.underlying23 info5 rfl (by decide) (by omega) v491 t490 l0_8 _ _ _ (fun k_ => some k_ ≠ (.slice Ao33 y478.length co33 : Value).ownBlock) (fun _ => False) rfl rfl ?aO ?aR (fun _ _ h => h) (fun _ h => h.elim) ?aF ?aB ?aS ?aL ?_
        (case aR => exact Kd.C_below HR0_8.out (bz HB))
        (case aB => exact bz HB)
        (case aF => exact (fun k_ hk => Kd.fresh' (Kd.R_lt (Kd.rz HO480)) k_ hk))
        (case aO => exact (Kd.rz HO492))
        (case aS => exact (below_size (bz HB)))
        (case aL => have := LMc18.out; omega)
        intro v494 w42 ho hb hg hat
        rw [← Ny493.out] at ho
        have n0_ := Aside0.mk (blk_grown (kz BK465) hg (Kd.R_ne HO492.out BK465.out (by decide)))
        have n1_ := Aside0.mk (Kd.R_after (ok := (fun _ => True)) (by (with_reducible repeat (first | apply Kd.R_alloc | apply Kd.R_drewN | apply Kd.R_drew)); exact Kd.R_mono HO480.out (fun _ hk => ⟨trivial, hk⟩)) hg hat)
        have n2_ := Aside0.mk (hb)
        have n3_ := Aside0.mk (ho)
        clear BK465
        clear HO480
        clear HB
        clear HO492
        have BK465 := n0_
        have HO480 := n1_
        have HB := n2_
        have HO495 := n3_
        clear n0_ n1_ n2_ n3_
        clear ho hb hg hat
        refine hK.out _ _ ⟨cz BK465.out 0 rfl, cz BK465.out 1 rfl, cz BK465.out 2 rfl, cz BK465.out 3 rfl, cz BK465.out 4 rfl, cz BK465.out 5 rfl, cz BK465.out 6 rfl, cz BK465.out 7 rfl, cz BK465.out 8 rfl, cz BK465.out 9 rfl⟩ (fun hHeld => ?_)
        clear hK K
        refine nz 61 ?_
        refine oz 6 (some 64) HT_ (fun K hK => ?_)
        refine Kd.R_append_rows_step (Kd.int .u8) (w0 := w) w.heap.size (by rfl) (.tmp 61) (.tmp 63) 23 5 (.int .u8 0) 1 rfl Try.underlying23 info5 rfl (by decide) (by omega) v494 y493 l0_9 _ _ _ (fun k_ => some k_ ≠ (.slice Ao33 y478.length co33 : Value).ownBlock) (fun _ => False) rfl rfl ?aO ?aR (fun _ _ h => h) (fun _ h => h.elim) ?aF ?aB ?aS ?aL ?_
        (case aR => exact Kd.C_below HR0_9.out (bz HB))
        (case aB => exact bz HB)
        (case aF => exact (fun k_ hk => Kd.fresh' (Kd.R_lt (Kd.rz HO480)) k_ hk))
        (case aO => exact (Kd.rz HO495))
        (case aS => exact (below_size (bz HB)))
        (case aL => have := LMc19.out; omega)
        intro v497 w43 ho hb hg hat
        rw [← Ny496.out] at ho
        have n0_ := Aside0.mk (blk_grown (kz BK465) hg (Kd.R_ne HO495.out BK465.out (by decide)))
        have n1_ := Aside0.mk (Kd.R_after (ok := (fun _ => True)) (Kd.rz HO480) hg hat)
        have n2_ := Aside0.mk (hb)
        have n3_ := Aside0.mk (ho)
        clear BK465
        clear HO480
        clear HB
        clear HO495
        have BK465 := n0_
        have HO480 := n1_
        have HB := n2_
        have HO498 := n3_
        clear n0_ n1_ n2_ n3_
        clear ho hb hg hat
        refine hK.out _ _ ⟨cz BK465.out 0 rfl, cz BK465.out 1 rfl, cz BK465.out 2 rfl, cz BK465.out 3 rfl, cz BK465.out 4 rfl, cz BK465.out 5 rfl, cz BK465.out 6 rfl, cz BK465.out 7 rfl, cz BK465.out 8 rfl, cz BK465.out 9 rfl⟩ (fun hHeld => ?_)
        clear hK K
        refine nz 64 ?_
        refine pz 7 2 HT_ ?_
        refine pz 8 3 HT_ ?_
        refine dz HT_ ?_
        try go_wp2
        go_ret2
        exact ⟨_, by first | rfl | (simp [errW_none, errW_some] <;> rfl) | (simp [*, errW_none, errW_some] <;> rfl), by (with_reducible repeat (first | apply Kd.R_alloc | apply Kd.R_drewN | apply Kd.R_drew)); exact Kd.R_mono HO498.out (fun _ hk => trivial), bz HB⟩
       ·rw [if_neg c19] at H
        exact absurd H (by simp)
      ·rw [if_neg c18] at H
       exact absurd H (by simp)
     ·rw [if_neg c14] at H
      exact absurd H (by simp)
def lychref1_TcpSum.f (k : Nat) (a0 : Int) (a1 : Int) (a2_0 : Int) (a2_1 : Int) (a2_2 : Int) (a2_3 : Int) (a2_4 : Int) (a2_5 : Int) (a2_6 : Int) (a2_7 : Int) (l2_8 : List Int) (l2_9 : List Int) : Option (Int) := (lychref1_TcpBytes.f k a2_0 a2_1 a2_2 a2_3 a2_4 a2_5 0 a2_7 l2_8 l2_9).bind fun bt500 => (if bt500.2 = 0 then ((lychref1_Pseudo.f k a0 a1 6 (bt500.1.length : Int)).bind fun t504 => ((lychref1_Add.f k t504 bt500.1).bind fun t505 => ((lychref1_Fold.f k t505).bind fun t506 => (some (Go.bits .xor .u16 IntKind.u16.max t506))))) else (some 0))
theorem lychref1_TcpSum.calls (k : Nat) (a0 : Int) (a1 : Int) (a2_0 : Int) (a2_1 : Int) (a2_2 : Int) (a2_3 : Int) (a2_4 : Int) (a2_5 : Int) (a2_6 : Int) (a2_7 : Int) (A2_8 : Option Addr) (c2_8 : Nat) (l2_8 : List Int) (A2_9 : Option Addr) (c2_9 : Nat) (l2_9 : List Int) (r : Int) (w : World) (hr2_8 : Kd.C (Kd.int .u8) w A2_8 l2_8.length l2_8) (hc2_8 : l2_8.length ≤ c2_8) (hr2_9 : Kd.C (Kd.int .u8) w A2_9 l2_9.length l2_9) (hc2_9 : l2_9.length ≤ c2_9) (h : lychref1_TcpSum.f k a0 a1 a2_0 a2_1 a2_2 a2_3 a2_4 a2_5 a2_6 a2_7 l2_8 l2_9 = some r) :
  Calls Try.prog 74 #[.int .u32 a0, .int .u32 a1, .agg #[.int .u16 a2_0, .int .u16 a2_1, .int .u32 a2_2, .int .u32 a2_3, .int .u8 a2_4, .int .u16 a2_5, .int .u16 a2_6, .int .u16 a2_7, .slice A2_8 l2_8.length c2_8, .slice A2_9 l2_9.length c2_9]] w fun e w' => e = .returned (.int .u16 r) ∧ Below w.heap.size w w' := by
 have hu137 := Try.underlying137
 have hsg_u16 : IntKind.u16.signed = false := rfl
 have HR2_8 := Aside0.mk hr2_8
 have HC2_8 := Aside0.mk hc2_8
 clear hr2_8 hc2_8
 have HR2_9 := Aside0.mk hr2_9
 have HC2_9 := Aside0.mk hc2_9
 clear hr2_9 hc2_9
 have HB := Aside0.mk (Below.refl w.heap.size w)
 have H : ((lychref1_TcpBytes.f k a2_0 a2_1 a2_2 a2_3 a2_4 a2_5 0 a2_7 l2_8 l2_9).bind fun bt500 => (if bt500.2 = 0 then ((lychref1_Pseudo.f k a0 a1 6 (bt500.1.length : Int)).bind fun t504 => ((lychref1_Add.f k t504 bt500.1).bind fun t505 => ((lychref1_Fold.f k t505).bind fun t506 => (some (Go.bits .xor .u16 IntKind.u16.max t506))))) else (some 0))) = some r := h
 clear h
 replace H := Option.bind_eq_some_iff.mp H
 obtain ⟨⟨t500, t503⟩, A40, H⟩ := H
 replace H : (if t503 = 0 then ((lychref1_Pseudo.f k a0 a1 6 (t500.length : Int)).bind fun t504 => ((lychref1_Add.f k t504 t500).bind fun t505 => ((lychref1_Fold.f k t505).bind fun t506 => (some (Go.bits .xor .u16 IntKind.u16.max t506))))) else (some 0)) = some r := H
 have A4 := Aside0.mk A40
 clear A40
 by_cases c5 : t503 = 0
 ·rw [if_pos c5] at H
  have c5b0 : (t503 == 0) = true := beq_iff_eq.mpr c5
  have c5b1 : (t503 != 0) = false := bne_eq_false_iff_eq.mpr c5
  clear c5
  replace H := Option.bind_eq_some_iff.mp H
  obtain ⟨t504, A60, H⟩ := H
  replace H : ((lychref1_Add.f k t504 t500).bind fun t505 => ((lychref1_Fold.f k t505).bind fun t506 => (some (Go.bits .xor .u16 IntKind.u16.max t506)))) = some r := H
  have A6 := Aside0.mk A60
  clear A60
  replace H := Option.bind_eq_some_iff.mp H
  obtain ⟨t505, A70, H⟩ := H
  replace H : ((lychref1_Fold.f k t505).bind fun t506 => (some (Go.bits .xor .u16 IntKind.u16.max t506))) = some r := H
  have A7 := Aside0.mk A70
  clear A70
  replace H := Option.bind_eq_some_iff.mp H
  obtain ⟨t506, A80, H⟩ := H
  replace H : (some (Go.bits .xor .u16 IntKind.u16.max t506)) = some r := H
  have A8 := Aside0.mk A80
  clear A80
  obtain rfl := Option.some.inj H
  go_enter Try.func74, Try.ntmps74
  go_wp2_with (first | ((with_reducible refine gate_dst (N := 5) rfl ?_); refine box_event ?hg (N := 5) ?hd (cs := #[.int .u16 a2_0, .int .u16 a2_1, .int .u32 a2_2, .int .u32 a2_3, .int .u8 a2_4, .int .u16 a2_5, .int .u16 a2_6, .int .u16 a2_7, .slice A2_8 l2_8.length c2_8, .slice A2_9 l2_9.length c2_9]) (t := 137) ?hr ?_; (case hd => rfl); (case hg => rfl); (case hr => first | (go_simp; done) | (go_simp; rfl)); intro gb499 hg w9 hbox hb; have n0_ := Aside0.mk (below_step (bz HB) hb); have n1_ := Aside0.mk (hbox); have n2_ := Aside0.mk ((by rw [hg]; exact (below_size (bz HB)) : w.heap.size ≤ gb499)); have n3_ := Aside0.mk ((by rw [hg]; exact (below_size (bz HB)) : w.heap.size ≤ gb499)); clear HB; have HB := n0_; have BK499 := n1_; have GW499 := n2_; have GE499 := n3_; clear n0_ n1_ n2_ n3_; clear hb hbox hg; have hcz10_0 : w9.cell? ⟨gb499, 0, none⟩ = some (.int .u16 a2_0) := cz BK499.out 0 rfl; have hcz10_1 : w9.cell? ⟨gb499, 1, none⟩ = some (.int .u16 a2_1) := cz BK499.out 1 rfl; have hcz10_2 : w9.cell? ⟨gb499, 2, none⟩ = some (.int .u32 a2_2) := cz BK499.out 2 rfl; have hcz10_3 : w9.cell? ⟨gb499, 3, none⟩ = some (.int .u32 a2_3) := cz BK499.out 3 rfl; have hcz10_4 : w9.cell? ⟨gb499, 4, none⟩ = some (.int .u8 a2_4) := cz BK499.out 4 rfl; have hcz10_5 : w9.cell? ⟨gb499, 5, none⟩ = some (.int .u16 a2_5) := cz BK499.out 5 rfl; have hcz10_6 : w9.cell? ⟨gb499, 6, none⟩ = some (.int .u16 a2_6) := cz BK499.out 6 rfl; have hcz10_7 : w9.cell? ⟨gb499, 7, none⟩ = some (.int .u16 a2_7) := cz BK499.out 7 rfl; have hcz10_8 : w9.cell? ⟨gb499, 8, none⟩ = some (.slice A2_8 l2_8.length c2_8) := cz BK499.out 8 rfl; have hcz10_9 : w9.cell? ⟨gb499, 9, none⟩ = some (.slice A2_9 l2_9.length c2_9) := cz BK499.out 9 rfl; have hfz10_0 := blk_frozen BK499.out 0; have hfz10_1 := blk_frozen BK499.out 1; have hfz10_2 := blk_frozen BK499.out 2; have hfz10_3 := blk_frozen BK499.out 3; have hfz10_4 := blk_frozen BK499.out 4; have hfz10_5 := blk_frozen BK499.out 5; have hfz10_6 := blk_frozen BK499.out 6; have hfz10_7 := blk_frozen BK499.out 7; have hfz10_8 := blk_frozen BK499.out 8; have hfz10_9 := blk_frozen BK499.out 9) | ((with_reducible refine gate_callee (f := 75) rfl ?_); refine gL 12 Try.func75 #[.agg #[.int .u16 a2_0, .int .u16 a2_1, .int .u32 a2_2, .int .u32 a2_3, .int .u8 a2_4, .int .u16 a2_5, .int .u16 0, .int .u16 a2_7, .slice A2_8 l2_8.length c2_8, .slice A2_9 l2_9.length c2_9]] ?_; (with_reducible refine (lychref1_TcpBytes.calls k a2_0 a2_1 a2_2 a2_3 a2_4 a2_5 0 a2_7 _ _ l2_8 _ _ l2_9 t500 t503 _ ?side1 ?side2 ?side3 ?side4 A4.out).mono ?_); (case side1 => exact Kd.C_below HR2_8.out (bz HB)); (case side2 => exact HC2_8.out); (case side3 => exact Kd.C_below HR2_9.out (bz HB)); (case side4 => exact HC2_9.out); rintro e w11 ⟨v501, rfl, ho0, hb⟩; refine ⟨_, rfl, ?_⟩; have n0_ := Aside0.mk (Kd.R_lower ho0 (below_size (bz HB))); have n1_ := Aside0.mk (blk_below (g := gb499) (o := .cells #[.int .u16 a2_0, .int .u16 a2_1, .int .u32 a2_2, .int .u32 a2_3, .int .u8 a2_4, .int .u16 a2_5, .int .u16 0, .int .u16 a2_7, .slice A2_8 l2_8.length c2_8, .slice A2_9 l2_9.length c2_9] 137 (0, 0)) (by (with_reducible repeat (first | refine blk_drewN ?_ _ | refine blk_drew ?_ | refine blk_alloc ?_ _)); refine blk_put (cs := #[.int .u16 a2_0, .int .u16 a2_1, .int .u32 a2_2, .int .u32 a2_3, .int .u8 a2_4, .int .u16 a2_5, .int .u16 a2_6, .int .u16 a2_7, .slice A2_8 l2_8.length c2_8, .slice A2_9 l2_9.length c2_9]) ?_ 6 _ rfl; (with_reducible repeat (first | refine blk_drewN ?_ _ | refine blk_drew ?_ | refine blk_alloc ?_ _)); exact BK499.out) hb); have n2_ := Aside0.mk (below_step (bz HB) hb); clear BK499; clear HB; have HO502 := n0_; have BK499 := n1_; have HB := n2_; clear n0_ n1_ n2_; (try clear hb); (try clear hb2); (try clear hk); (try clear hi); (try clear ho0); obtain ⟨Ao12, co12, eo12⟩ := Kd.R_slice HO502.out; subst eo12) | ((with_reducible refine gate_callee (f := 82) rfl ?_); refine gL 21 Try.func82 #[.int .u32 a0, .int .u32 a1, .int .u8 6, .int .i64 (t500.length : Int)] ?_; (with_reducible refine (lychref1_Pseudo.calls k a0 a1 6 (t500.length : Int) t504 _ A6.out).mono ?_); rintro e w' ⟨rfl, ⟨nd, rfl⟩⟩; refine ⟨_, rfl, ?_⟩) | ((with_reducible refine gate_callee (f := 80) rfl ?_); refine gL 23 Try.func80 #[.int .u32 t504, .slice Ao12 t500.length co12] ?_; (with_reducible refine (lychref1_Add.calls k t504 _ _ t500 t505 _ ?side1 ?side2 A7.out).mono ?_); (case side1 => repeat (first | exact (Kd.R_reads' HO502.out).2.2 | (with_reducible refine Kd.C_alloc ?_ _) | (with_reducible refine Kd.C_drewN ?_ _) | (with_reducible refine Kd.C_drew ?_))); (case side2 => exact (Kd.R_reads' HO502.out).2.1); rintro e w13 ⟨rfl, hb⟩; refine ⟨_, rfl, ?_⟩; have n0_ := Aside0.mk (Kd.R_below (Kd.rz HO502) hb); have n1_ := Aside0.mk (blk_below (kz BK499) hb); have n2_ := Aside0.mk (below_step (bz HB) hb); clear HO502; clear BK499; clear HB; have HO502 := n0_; have BK499 := n1_; have HB := n2_; clear n0_ n1_ n2_; (try clear hb); (try clear hb2); (try clear hk); (try clear hi)) | ((with_reducible refine gate_callee (f := 79) rfl ?_); refine gL 24 Try.func79 #[.int .u32 t505] ?_; (with_reducible refine (lychref1_Fold.calls k t505 t506 _ A8.out).mono ?_); rintro e w' ⟨rfl, ⟨nd, rfl⟩⟩; refine ⟨_, rfl, ?_⟩))
  go_ret
  exact ⟨by first | rfl | (simp [errW_none, errW_some] <;> rfl) | (simp [*, errW_none, errW_some] <;> rfl), bz HB⟩
 ·rw [if_neg c5] at H
  have c5b0 : (t503 == 0) = false := beq_eq_false_iff_ne.mpr c5
  have c5b1 : (t503 != 0) = true := bne_iff_ne.mpr c5
  obtain rfl := Option.some.inj H
  go_enter Try.func74, Try.ntmps74
  go_wp2_with (first | ((with_reducible refine gate_dst (N := 5) rfl ?_); refine box_event ?hg (N := 5) ?hd (cs := #[.int .u16 a2_0, .int .u16 a2_1, .int .u32 a2_2, .int .u32 a2_3, .int .u8 a2_4, .int .u16 a2_5, .int .u16 a2_6, .int .u16 a2_7, .slice A2_8 l2_8.length c2_8, .slice A2_9 l2_9.length c2_9]) (t := 137) ?hr ?_; (case hd => rfl); (case hg => rfl); (case hr => first | (go_simp; done) | (go_simp; rfl)); intro gb499 hg w14 hbox hb; have n0_ := Aside0.mk (below_step (bz HB) hb); have n1_ := Aside0.mk (hbox); have n2_ := Aside0.mk ((by rw [hg]; exact (below_size (bz HB)) : w.heap.size ≤ gb499)); have n3_ := Aside0.mk ((by rw [hg]; exact (below_size (bz HB)) : w.heap.size ≤ gb499)); clear HB; have HB := n0_; have BK499 := n1_; have GW499 := n2_; have GE499 := n3_; clear n0_ n1_ n2_ n3_; clear hb hbox hg; have hcz15_0 : w14.cell? ⟨gb499, 0, none⟩ = some (.int .u16 a2_0) := cz BK499.out 0 rfl; have hcz15_1 : w14.cell? ⟨gb499, 1, none⟩ = some (.int .u16 a2_1) := cz BK499.out 1 rfl; have hcz15_2 : w14.cell? ⟨gb499, 2, none⟩ = some (.int .u32 a2_2) := cz BK499.out 2 rfl; have hcz15_3 : w14.cell? ⟨gb499, 3, none⟩ = some (.int .u32 a2_3) := cz BK499.out 3 rfl; have hcz15_4 : w14.cell? ⟨gb499, 4, none⟩ = some (.int .u8 a2_4) := cz BK499.out 4 rfl; have hcz15_5 : w14.cell? ⟨gb499, 5, none⟩ = some (.int .u16 a2_5) := cz BK499.out 5 rfl; have hcz15_6 : w14.cell? ⟨gb499, 6, none⟩ = some (.int .u16 a2_6) := cz BK499.out 6 rfl; have hcz15_7 : w14.cell? ⟨gb499, 7, none⟩ = some (.int .u16 a2_7) := cz BK499.out 7 rfl; have hcz15_8 : w14.cell? ⟨gb499, 8, none⟩ = some (.slice A2_8 l2_8.length c2_8) := cz BK499.out 8 rfl; have hcz15_9 : w14.cell? ⟨gb499, 9, none⟩ = some (.slice A2_9 l2_9.length c2_9) := cz BK499.out 9 rfl; have hfz15_0 := blk_frozen BK499.out 0; have hfz15_1 := blk_frozen BK499.out 1; have hfz15_2 := blk_frozen BK499.out 2; have hfz15_3 := blk_frozen BK499.out 3; have hfz15_4 := blk_frozen BK499.out 4; have hfz15_5 := blk_frozen BK499.out 5; have hfz15_6 := blk_frozen BK499.out 6; have hfz15_7 := blk_frozen BK499.out 7; have hfz15_8 := blk_frozen BK499.out 8; have hfz15_9 := blk_frozen BK499.out 9) | ((with_reducible refine gate_callee (f := 75) rfl ?_); refine gL 12 Try.func75 #[.agg #[.int .u16 a2_0, .int .u16 a2_1, .int .u32 a2_2, .int .u32 a2_3, .int .u8 a2_4, .int .u16 a2_5, .int .u16 0, .int .u16 a2_7, .slice A2_8 l2_8.length c2_8, .slice A2_9 l2_9.length c2_9]] ?_; (with_reducible refine (lychref1_TcpBytes.calls k a2_0 a2_1 a2_2 a2_3 a2_4 a2_5 0 a2_7 _ _ l2_8 _ _ l2_9 t500 t503 _ ?side1 ?side2 ?side3 ?side4 A4.out).mono ?_); (case side1 => exact Kd.C_below HR2_8.out (bz HB)); (case side2 => exact HC2_8.out); (case side3 => exact Kd.C_below HR2_9.out (bz HB)); (case side4 => exact HC2_9.out); rintro e w16 ⟨v501, rfl, ho0, hb⟩; refine ⟨_, rfl, ?_⟩; have n0_ := Aside0.mk (Kd.R_lower ho0 (below_size (bz HB))); have n1_ := Aside0.mk (blk_below (g := gb499) (o := .cells #[.int .u16 a2_0, .int .u16 a2_1, .int .u32 a2_2, .int .u32 a2_3, .int .u8 a2_4, .int .u16 a2_5, .int .u16 0, .int .u16 a2_7, .slice A2_8 l2_8.length c2_8, .slice A2_9 l2_9.length c2_9] 137 (0, 0)) (by (with_reducible repeat (first | refine blk_drewN ?_ _ | refine blk_drew ?_ | refine blk_alloc ?_ _)); refine blk_put (cs := #[.int .u16 a2_0, .int .u16 a2_1, .int .u32 a2_2, .int .u32 a2_3, .int .u8 a2_4, .int .u16 a2_5, .int .u16 a2_6, .int .u16 a2_7, .slice A2_8 l2_8.length c2_8, .slice A2_9 l2_9.length c2_9]) ?_ 6 _ rfl; (with_reducible repeat (first | refine blk_drewN ?_ _ | refine blk_drew ?_ | refine blk_alloc ?_ _)); exact BK499.out) hb); have n2_ := Aside0.mk (below_step (bz HB) hb); clear BK499; clear HB; have HO502 := n0_; have BK499 := n1_; have HB := n2_; clear n0_ n1_ n2_; (try clear hb); (try clear hb2); (try clear hk); (try clear hi); (try clear ho0)))
  go_ret
  exact ⟨by first | rfl | (simp [errW_none, errW_some] <;> rfl) | (simp [*, errW_none, errW_some] <;> rfl), bz HB⟩
end Go.Proofs.Ytkmimamminddiaa.PB
/- lychseat.body: a datagram's, a segment's, a message's bytes. -/
namespace Go.Proofs.Ytkmimamminddiaa.PB
open Go.RowKit Go.Proofs.YtkmimamminddiaaW.PrintWords Go.Proofs.YtkmimamminddiaaW.PrintLast Go.Proofs.YtkmimamminddiaaW.PrintMore
set_option linter.unusedVariables false
set_option linter.unusedSimpArgs false
def abc16 : List Int := [97, 98, 99, 100, 101, 102, 103, 104, 105, 106, 107, 108, 109, 110, 111, 112]
def seat_body.f (k : Nat) (pr src dst fr tp fl n : Int) : Option (List Int) :=
 if pr = 17 then
  if Go.bits .and .u8 fl 64 = 0 then (lychref1_UdpSum.f k src dst fr tp 0 (abc16.take (n.tmod 16).toNat)).bind fun s => (lychref1_UdpBytes.f fr tp s (abc16.take (n.tmod 16).toNat)).bind fun b => some b.1
  else (lychref1_UdpBytes.f fr tp 0 (abc16.take (n.tmod 16).toNat)).bind fun b => some b.1
 else if pr = 6 then
  if Go.bits .and .u8 n 32 = 0 then (lychref1_TcpSum.f k src dst fr tp (n % 4294967296) 0 (Go.bits .and .u8 fl 23) 9 0 0 [] (abc16.take (n.tmod 16).toNat)).bind fun s => (lychref1_TcpBytes.f k fr tp (n % 4294967296) 0 (Go.bits .and .u8 fl 23) 9 s 0 [] (abc16.take (n.tmod 16).toNat)).bind fun b => some b.1
  else (lychref1_TcpSum.f k src dst fr tp (n % 4294967296) 0 (Go.bits .and .u8 fl 23) 9 0 0 [1, 1, 1, 0] (abc16.take (n.tmod 16).toNat)).bind fun s => (lychref1_TcpBytes.f k fr tp (n % 4294967296) 0 (Go.bits .and .u8 fl 23) 9 s 0 [1, 1, 1, 0] (abc16.take (n.tmod 16).toNat)).bind fun b => some b.1
 else if Go.bits .and .u8 fl 1 = 0 then (lychref1_IcmpSum.f k 8 0 0 (Go.bits .or .u32 (fr % 4294967296 * 65536 % 4294967296) (n % 4294967296)) (abc16.take (n.tmod 16).toNat)).bind fun s => (lychref1_IcmpBytes.f 8 0 s (Go.bits .or .u32 (fr % 4294967296 * 65536 % 4294967296) (n % 4294967296)) (abc16.take (n.tmod 16).toNat)).bind fun b => some b.1
  else (lychref1_IcmpSum.f k 0 0 0 (Go.bits .or .u32 (fr % 4294967296 * 65536 % 4294967296) (n % 4294967296)) (abc16.take (n.tmod 16).toNat)).bind fun s => (lychref1_IcmpBytes.f 0 0 s (Go.bits .or .u32 (fr % 4294967296 * 65536 % 4294967296) (n % 4294967296)) (abc16.take (n.tmod 16).toNat)).bind fun b => some b.1
theorem seat_body.calls (k : Nat) (pr src dst fr tp fl n : Int) (r : List Int) (w : World) (hn : 0 ≤ n ∧ n ≤ 255) (h : seat_body.f k pr src dst fr tp fl n = some r) :
  Calls Try.prog 53 #[.int .u8 pr, .int .u32 src, .int .u32 dst, .int .u16 fr, .int .u16 tp, .int .u8 fl, .int .u8 n] w fun e w' => ∃ v0_ : Value, e = .returned v0_ ∧ Kd.R (Kd.int .u8) 5 w' w.heap.size (fun _ => True) v0_ r ∧ Below w.heap.size w w' := by
 have hu83 := Try.underlying83
 have hu137 := Try.underlying137
 have hu101 := Try.underlying101
 have HB := Aside0.mk (Below.refl w.heap.size w)
 have HI83 : Aside0 ((Try.prog.info? 83).map (·.size) = some 4) := ⟨by kernel_rfl⟩
 have HI137 : Aside0 ((Try.prog.info? 137).map (·.size) = some 10) := ⟨by kernel_rfl⟩
 have HI101 : Aside0 ((Try.prog.info? 101).map (·.size) = some 5) := ⟨by kernel_rfl⟩
 obtain ⟨m, hm⟩ : ∃ m : Nat, n.tmod 16 = (m : Int) := ⟨(n.tmod 16).toNat, (Int.toNat_of_nonneg (Int.tmod_nonneg _ hn.1)).symm⟩
 have hm16 : m ≤ abc16.length := by
  have h1 : n.tmod 16 < 16 := Int.tmod_lt_of_pos _ (by decide)
  have h2 : abc16.length = 16 := rfl
  omega
 obtain ⟨i0, hi0, _, hsz, _⟩ := info_parts info5
 have H : seat_body.f k pr src dst fr tp fl n = some r := h
 clear h
 unfold seat_body.f at H
 rw [hm, Int.toNat_natCast] at H
 obtain ⟨l, hl⟩ : ∃ l, l = abc16.take m := ⟨_, rfl⟩
 have hll : l.length = m := by rw [hl, List.length_take]; omega
 have hcut := rw_cut (P := Try.prog) 23 5 .u8 Try.underlying23 hi0 (some ⟨w.heap.size, 0, none⟩) 16 16 (n.tmod 16) l.length (by rw [hll]; exact hm) (by rw [hll]; exact hm16) (Nat.le_refl _)
 rw [← hl] at H
 have kc := Lib.run_convert_bytes_const (P := Try.prog) w 23 5 #[.int .u8 97, .int .u8 98, .int .u8 99, .int .u8 100, .int .u8 101, .int .u8 102, .int .u8 103, .int .u8 104, .int .u8 105, .int .u8 106, .int .u8 107, .int .u8 108, .int .u8 109, .int .u8 110, .int .u8 111, .int .u8 112] 16 16 Try.underlying23 Try.underlying5
 have HLE := Aside0.mk hl
 have HM16 := Aside0.mk hm16
 have HM2 : Aside0 (l.length ≤ 16) := ⟨by rw [hll]; exact hm16⟩
 have HF := Aside0.mk H
 clear hl hll hm hm16 hi0 hsz H hn
 go_enter Try.func53, Try.ntmps53
 go_upto_region 2 with (fail)
 clear hcut kc
 obtain ⟨gd, hgd⟩ : ∃ x_, x_ = w.heap.size := ⟨_, rfl⟩
 have HXd : Aside0 ((w.alloc (.cells #[.int .u8 97, .int .u8 98, .int .u8 99, .int .u8 100, .int .u8 101, .int .u8 102, .int .u8 103, .int .u8 104, .int .u8 105, .int .u8 106, .int .u8 107, .int .u8 108, .int .u8 109, .int .u8 110, .int .u8 111, .int .u8 112] 5 (16, 17))).heap[gd]? = some (.cells #[.int .u8 97, .int .u8 98, .int .u8 99, .int .u8 100, .int .u8 101, .int .u8 102, .int .u8 103, .int .u8 104, .int .u8 105, .int .u8 106, .int .u8 107, .int .u8 108, .int .u8 109, .int .u8 110, .int .u8 111, .int .u8 112] 5 (16, 17))) := ⟨by rw [hgd]; exact rw_blknew _ _⟩
 rw [← hgd]
 clear hgd
 have hb_ := below_alloc (Below.refl w.heap.size w) (.cells #[.int .u8 97, .int .u8 98, .int .u8 99, .int .u8 100, .int .u8 101, .int .u8 102, .int .u8 103, .int .u8 104, .int .u8 105, .int .u8 106, .int .u8 107, .int .u8 108, .int .u8 109, .int .u8 110, .int .u8 111, .int .u8 112] 5 (16, 17))
 have n_HB := Aside0.mk (below_step HB.out hb_)
 clear HB hb_
 have HB := n_HB
 clear n_HB
 generalize w.alloc (.cells #[.int .u8 97, .int .u8 98, .int .u8 99, .int .u8 100, .int .u8 101, .int .u8 102, .int .u8 103, .int .u8 104, .int .u8 105, .int .u8 106, .int .u8 107, .int .u8 108, .int .u8 109, .int .u8 110, .int .u8 111, .int .u8 112] 5 (16, 17)) = w1 at HXd HB ⊢
 have H := HF.out
 clear HF
 by_cases c17 : pr = 17
 ·have c171 : (pr == 17) = true := beq_iff_eq.2 c17
  have c172 : (pr != 17) = false := by rw [bne, c171]; rfl
  rw [if_pos c17] at H
  clear c17
  (try dsimp only)
  go_upto_region 5 with ((first | (refine rw_skip rfl rfl (rw_new rfl rfl rfl HI83.out rfl (by simp [Value.oneCell'])) ?_)))
  obtain ⟨gu, hgu⟩ : ∃ x_, x_ = w1.heap.size := ⟨_, rfl⟩
  have HXu : Aside0 ((w1.alloc (.cells #[.int .u16 fr, .int .u16 tp, .int .u16 0, .slice (some ⟨gd, 0, none⟩) l.length 16] 83)).heap[gu]? = some (.cells #[.int .u16 fr, .int .u16 tp, .int .u16 0, .slice (some ⟨gd, 0, none⟩) l.length 16] 83 (0, 0))) := ⟨by rw [hgu]; exact rw_blknew _ _⟩
  have GHXu := Aside0.mk (show w.heap.size ≤ gu by rw [hgu]; exact below_size HB.out)
  rw [← hgu]
  clear hgu
  have hb_ := below_alloc (Below.refl w1.heap.size w1) (.cells #[.int .u16 fr, .int .u16 tp, .int .u16 0, .slice (some ⟨gd, 0, none⟩) l.length 16] 83)
  have n_HB := Aside0.mk (below_step HB.out hb_)
  have n_HXd := Aside0.mk (blk_below HXd.out hb_)
  clear HB HXd hb_
  have HB := n_HB
  have HXd := n_HXd
  clear n_HB n_HXd
  generalize (w1.alloc (.cells #[.int .u16 fr, .int .u16 tp, .int .u16 0, .slice (some ⟨gd, 0, none⟩) l.length 16] 83)) = w2 at HXu HB HXd ⊢
  by_cases cf : Go.bits .and .u8 fl 64 = 0
  ·have cf1 : (Go.bits .and .u8 fl 64 == 0) = true := beq_iff_eq.2 cf
   have cf2 : (Go.bits .and .u8 fl 64 != 0) = false := by rw [bne, cf1]; rfl
   rw [if_pos cf] at H
   clear cf
   (try dsimp only)
   go_wp2_with (refine Kd.event_run rfl (rw_load rfl rfl HXu.out hu83 rfl HI83.out) ?_)
   obtain ⟨s, hs0, H⟩ := rw_bind H
   have HCd := Aside0.mk (show Kd.C (Kd.int .u8) w2 (some ⟨gd, 0, none⟩) l.length l by rw [HLE.out]; exact rw_C_blk HXd.out rfl HM16.out (by decide))
   refine (lychref1_UdpSum.calls k src dst fr tp 0 (some ⟨gd, 0, none⟩) 16 l s _ HCd.out HM2.out hs0).mono ?_
   rintro e w3 ⟨rfl, hb⟩
   clear hs0 HCd
   have hb_ := hb
   have n_HB := Aside0.mk (below_step HB.out hb_)
   have n_HXd := Aside0.mk (blk_below HXd.out hb_)
   have n_HXu := Aside0.mk (blk_below HXu.out hb_)
   clear HB HXd HXu hb_
   have HB := n_HB
   have HXd := n_HXd
   have HXu := n_HXu
   clear n_HB n_HXd n_HXu
   clear hb
   (try dsimp only)
   go_upto_region 7 with (((refine rw_set rfl rfl (i := 2) (v := .int .u16 s) (cs' := #[.int .u16 fr, .int .u16 tp, .int .u16 s, .slice (some ⟨gd, 0, none⟩) l.length 16]) HXu.out rfl ?hr_ ?_); (case hr_ => (have m_ := (blk_cell HXu.out 2).trans (rfl : _ = some (.int .u16 0 : Value))); (have mf_ := blk_frozen HXu.out 2); first | (go_simp; done) | (go_simp; rfl)); intro w4 hs_ off_; have n_HB := Aside0.mk (Off.below off_ HB.out GHXu.out); have n_HXd := Aside0.mk (Off.blk off_ HXd.out HXu.out (by decide)); clear HB HXd HXu off_; have HXu := Aside0.mk hs_; clear hs_; have HB := n_HB; have HXd := n_HXd; clear n_HB n_HXd))
   go_wp2_with (refine Kd.event_run rfl (rw_load rfl rfl HXu.out hu83 rfl HI83.out) ?_)
   obtain ⟨⟨b, be⟩, hb0, H⟩ := rw_bind H
   obtain rfl := Option.some.inj H
   have HCd := Aside0.mk (show Kd.C (Kd.int .u8) w4 (some ⟨gd, 0, none⟩) l.length l by rw [HLE.out]; exact rw_C_blk HXd.out rfl HM16.out (by decide))
   refine (lychref1_UdpBytes.calls fr tp s (some ⟨gd, 0, none⟩) 16 l b be _ HCd.out HM2.out hb0).mono ?_
   rintro e w5 ⟨v_, rfl, ho, hb⟩
   have HRr := Aside0.mk (Kd.R_lower ho (below_size HB.out))
   clear ho hb0 HCd
   have hb_ := hb
   have n_HB := Aside0.mk (below_step HB.out hb_)
   clear HB hb_
   have HB := n_HB
   clear n_HB
   clear hb
   (try dsimp only)
   go_wp2
   (try simp only [Exit.inBlock, Exit.then])
   go_ret
   exact ⟨_, rfl, HRr.out, HB.out⟩
  ·have cf1 : (Go.bits .and .u8 fl 64 == 0) = false := beq_eq_false_iff_ne.2 cf
   have cf2 : (Go.bits .and .u8 fl 64 != 0) = true := bne_iff_ne.2 cf
   rw [if_neg cf] at H
   clear cf
   (try dsimp only)
   go_wp2_with (refine Kd.event_run rfl (rw_load rfl rfl HXu.out hu83 rfl HI83.out) ?_)
   obtain ⟨⟨b, be⟩, hb0, H⟩ := rw_bind H
   obtain rfl := Option.some.inj H
   have HCd := Aside0.mk (show Kd.C (Kd.int .u8) w2 (some ⟨gd, 0, none⟩) l.length l by rw [HLE.out]; exact rw_C_blk HXd.out rfl HM16.out (by decide))
   refine (lychref1_UdpBytes.calls fr tp 0 (some ⟨gd, 0, none⟩) 16 l b be _ HCd.out HM2.out hb0).mono ?_
   rintro e w5 ⟨v_, rfl, ho, hb⟩
   have HRr := Aside0.mk (Kd.R_lower ho (below_size HB.out))
   clear ho hb0 HCd
   have hb_ := hb
   have n_HB := Aside0.mk (below_step HB.out hb_)
   clear HB hb_
   have HB := n_HB
   clear n_HB
   clear hb
   (try dsimp only)
   go_wp2
   (try simp only [Exit.inBlock, Exit.then])
   go_ret
   exact ⟨_, rfl, HRr.out, HB.out⟩
 ·have c171 : (pr == 17) = false := beq_eq_false_iff_ne.2 c17
  have c172 : (pr != 17) = true := bne_iff_ne.2 c17
  rw [if_neg c17] at H
  clear c17
  by_cases c6 : pr = 6
  ·have c61 : (pr == 6) = true := beq_iff_eq.2 c6
   have c62 : (pr != 6) = false := by rw [bne, c61]; rfl
   rw [if_pos c6] at H
   clear c6
   (try dsimp only)
   go_upto_region 11 with ((first | (refine rw_skip rfl rfl (rw_new rfl rfl rfl HI137.out rfl (by simp [Value.oneCell'])) ?_)))
   obtain ⟨gt, hgt⟩ : ∃ x_, x_ = w1.heap.size := ⟨_, rfl⟩
   have HXt : Aside0 ((w1.alloc (.cells #[.int .u16 fr, .int .u16 tp, .int .u32 (n % 4294967296), .int .u32 0, .int .u8 (Go.bits .and .u8 fl 23), .int .u16 9, .int .u16 0, .int .u16 0, .slice none 0 0, .slice (some ⟨gd, 0, none⟩) l.length 16] 137)).heap[gt]? = some (.cells #[.int .u16 fr, .int .u16 tp, .int .u32 (n % 4294967296), .int .u32 0, .int .u8 (Go.bits .and .u8 fl 23), .int .u16 9, .int .u16 0, .int .u16 0, .slice none 0 0, .slice (some ⟨gd, 0, none⟩) l.length 16] 137 (0, 0))) := ⟨by rw [hgt]; exact rw_blknew _ _⟩
   have GHXt := Aside0.mk (show w.heap.size ≤ gt by rw [hgt]; exact below_size HB.out)
   rw [← hgt]
   clear hgt
   have hb_ := below_alloc (Below.refl w1.heap.size w1) (.cells #[.int .u16 fr, .int .u16 tp, .int .u32 (n % 4294967296), .int .u32 0, .int .u8 (Go.bits .and .u8 fl 23), .int .u16 9, .int .u16 0, .int .u16 0, .slice none 0 0, .slice (some ⟨gd, 0, none⟩) l.length 16] 137)
   have n_HB := Aside0.mk (below_step HB.out hb_)
   have n_HXd := Aside0.mk (blk_below HXd.out hb_)
   clear HB HXd hb_
   have HB := n_HB
   have HXd := n_HXd
   clear n_HB n_HXd
   generalize (w1.alloc (.cells #[.int .u16 fr, .int .u16 tp, .int .u32 (n % 4294967296), .int .u32 0, .int .u8 (Go.bits .and .u8 fl 23), .int .u16 9, .int .u16 0, .int .u16 0, .slice none 0 0, .slice (some ⟨gd, 0, none⟩) l.length 16] 137)) = w2 at HXt HB HXd ⊢
   by_cases co : Go.bits .and .u8 n 32 = 0
   ·have co1 : (Go.bits .and .u8 n 32 == 0) = true := beq_iff_eq.2 co
    have co2 : (Go.bits .and .u8 n 32 != 0) = false := by rw [bne, co1]; rfl
    rw [if_pos co] at H
    clear co
    (try dsimp only)
    go_wp2_with (refine Kd.event_run rfl (rw_load rfl rfl HXt.out hu137 rfl HI137.out) ?_)
    obtain ⟨s, hs0, H⟩ := rw_bind H
    have HCd := Aside0.mk (show Kd.C (Kd.int .u8) w2 (some ⟨gd, 0, none⟩) l.length l by rw [HLE.out]; exact rw_C_blk HXd.out rfl HM16.out (by decide))
    have HCo := Aside0.mk (Kd.C_nil (Kd.int .u8) w2)
    refine (lychref1_TcpSum.calls k src dst fr tp (n % 4294967296) 0 (Go.bits .and .u8 fl 23) 9 0 0 none 0 [] (some ⟨gd, 0, none⟩) 16 l s _ HCo.out (by decide) HCd.out HM2.out hs0).mono ?_
    rintro e w7 ⟨rfl, hb⟩
    clear hs0 HCd HCo
    have hb_ := hb
    have n_HB := Aside0.mk (below_step HB.out hb_)
    have n_HXd := Aside0.mk (blk_below HXd.out hb_)
    have n_HXt := Aside0.mk (blk_below HXt.out hb_)
    clear HB HXd HXt hb_
    have HB := n_HB
    have HXd := n_HXd
    have HXt := n_HXt
    clear n_HB n_HXd n_HXt
    clear hb
    (try dsimp only)
    go_upto_region 14 with (((refine rw_set rfl rfl (i := 6) (v := .int .u16 s) (cs' := #[.int .u16 fr, .int .u16 tp, .int .u32 (n % 4294967296), .int .u32 0, .int .u8 (Go.bits .and .u8 fl 23), .int .u16 9, .int .u16 s, .int .u16 0, .slice none 0 0, .slice (some ⟨gd, 0, none⟩) l.length 16]) HXt.out rfl ?hr_ ?_); (case hr_ => (have m_ := (blk_cell HXt.out 6).trans (rfl : _ = some (.int .u16 0 : Value))); (have mf_ := blk_frozen HXt.out 6); first | (go_simp; done) | (go_simp; rfl)); intro w8 hs_ off_; have n_HB := Aside0.mk (Off.below off_ HB.out GHXt.out); have n_HXd := Aside0.mk (Off.blk off_ HXd.out HXt.out (by decide)); clear HB HXd HXt off_; have HXt := Aside0.mk hs_; clear hs_; have HB := n_HB; have HXd := n_HXd; clear n_HB n_HXd))
    go_wp2_with (refine Kd.event_run rfl (rw_load rfl rfl HXt.out hu137 rfl HI137.out) ?_)
    have HCo := Aside0.mk (Kd.C_nil (Kd.int .u8) w8)
    obtain ⟨⟨b, be⟩, hb0, H⟩ := rw_bind H
    obtain rfl := Option.some.inj H
    have HCd := Aside0.mk (show Kd.C (Kd.int .u8) w8 (some ⟨gd, 0, none⟩) l.length l by rw [HLE.out]; exact rw_C_blk HXd.out rfl HM16.out (by decide))
    refine (lychref1_TcpBytes.calls k fr tp (n % 4294967296) 0 (Go.bits .and .u8 fl 23) 9 s 0 none 0 [] (some ⟨gd, 0, none⟩) 16 l b be _ HCo.out (by decide) HCd.out HM2.out hb0).mono ?_
    rintro e w9 ⟨v_, rfl, ho, hb⟩
    have HRr := Aside0.mk (Kd.R_lower ho (below_size HB.out))
    clear ho hb0 HCd
    have hb_ := hb
    have n_HB := Aside0.mk (below_step HB.out hb_)
    clear HB hb_
    have HB := n_HB
    clear n_HB
    clear hb
    (try dsimp only)
    go_wp2
    (try simp only [Exit.inBlock, Exit.then])
    go_ret
    exact ⟨_, rfl, HRr.out, HB.out⟩
   ·have co1 : (Go.bits .and .u8 n 32 == 0) = false := beq_eq_false_iff_ne.2 co
    have co2 : (Go.bits .and .u8 n 32 != 0) = true := bne_iff_ne.2 co
    rw [if_neg co] at H
    clear co
    (try dsimp only)
    go_upto_region 13 with (first | ((with_reducible refine gate_dst (N := 64) rfl ?_); refine rw_lit ?hg_ (cs := #[.int .u8 1, .int .u8 1, .int .u8 1, .int .u8 0]) (t := 5) (n := 4) ?hr_ ?_; (case hg_ => rfl); (case hr_ => first | (go_simp; done) | (go_simp; rfl)); intro go w5 HXo0 hgo hb0_; have HXo := Aside0.mk HXo0; clear HXo0 hgo; have hb_ := hb0_; have n_HB := Aside0.mk (below_step HB.out hb_); have n_HXd := Aside0.mk (blk_below HXd.out hb_); have n_HXt := Aside0.mk (blk_below HXt.out hb_); clear HB HXd HXt hb_; have HB := n_HB; have HXd := n_HXd; have HXt := n_HXt; clear n_HB n_HXd n_HXt; clear hb0_) | ((refine rw_set rfl rfl (i := 8) (v := .slice (some ⟨go, 0, none⟩) 4 4) (cs' := #[.int .u16 fr, .int .u16 tp, .int .u32 (n % 4294967296), .int .u32 0, .int .u8 (Go.bits .and .u8 fl 23), .int .u16 9, .int .u16 0, .int .u16 0, .slice (some ⟨go, 0, none⟩) 4 4, .slice (some ⟨gd, 0, none⟩) l.length 16]) HXt.out rfl ?hr_ ?_); (case hr_ => (have m_ := (blk_cell HXt.out 8).trans (rfl : _ = some (.slice none 0 0 : Value))); (have mf_ := blk_frozen HXt.out 8); first | (go_simp; done) | (go_simp; rfl)); intro w6 hs_ off_; have n_HB := Aside0.mk (Off.below off_ HB.out GHXt.out); have n_HXd := Aside0.mk (Off.blk off_ HXd.out HXt.out (by decide)); have n_HXo := Aside0.mk (Off.blk off_ HXo.out HXt.out (by decide)); clear HB HXd HXo HXt off_; have HXt := Aside0.mk hs_; clear hs_; have HB := n_HB; have HXd := n_HXd; have HXo := n_HXo; clear n_HB n_HXd n_HXo))
    go_wp2_with (refine Kd.event_run rfl (rw_load rfl rfl HXt.out hu137 rfl HI137.out) ?_)
    obtain ⟨s, hs0, H⟩ := rw_bind H
    have HCd := Aside0.mk (show Kd.C (Kd.int .u8) w6 (some ⟨gd, 0, none⟩) l.length l by rw [HLE.out]; exact rw_C_blk HXd.out rfl HM16.out (by decide))
    have HCo := Aside0.mk (rw_C_blk (xs := [1, 1, 1, 0]) (m := 4) (w := w6) HXo.out rfl (by decide) (by decide))
    refine (lychref1_TcpSum.calls k src dst fr tp (n % 4294967296) 0 (Go.bits .and .u8 fl 23) 9 0 0 (some ⟨go, 0, none⟩) 4 [1, 1, 1, 0] (some ⟨gd, 0, none⟩) 16 l s _ HCo.out (by decide) HCd.out HM2.out hs0).mono ?_
    rintro e w7 ⟨rfl, hb⟩
    clear hs0 HCd HCo
    have hb_ := hb
    have n_HB := Aside0.mk (below_step HB.out hb_)
    have n_HXd := Aside0.mk (blk_below HXd.out hb_)
    have n_HXt := Aside0.mk (blk_below HXt.out hb_)
    have n_HXo := Aside0.mk (blk_below HXo.out hb_)
    clear HB HXd HXt HXo hb_
    have HB := n_HB
    have HXd := n_HXd
    have HXt := n_HXt
    have HXo := n_HXo
    clear n_HB n_HXd n_HXt n_HXo
    clear hb
    (try dsimp only)
    go_upto_region 14 with (((refine rw_set rfl rfl (i := 6) (v := .int .u16 s) (cs' := #[.int .u16 fr, .int .u16 tp, .int .u32 (n % 4294967296), .int .u32 0, .int .u8 (Go.bits .and .u8 fl 23), .int .u16 9, .int .u16 s, .int .u16 0, .slice (some ⟨go, 0, none⟩) 4 4, .slice (some ⟨gd, 0, none⟩) l.length 16]) HXt.out rfl ?hr_ ?_); (case hr_ => (have m_ := (blk_cell HXt.out 6).trans (rfl : _ = some (.int .u16 0 : Value))); (have mf_ := blk_frozen HXt.out 6); first | (go_simp; done) | (go_simp; rfl)); intro w8 hs_ off_; have n_HB := Aside0.mk (Off.below off_ HB.out GHXt.out); have n_HXd := Aside0.mk (Off.blk off_ HXd.out HXt.out (by decide)); have n_HXo := Aside0.mk (Off.blk off_ HXo.out HXt.out (by decide)); clear HB HXd HXo HXt off_; have HXt := Aside0.mk hs_; clear hs_; have HB := n_HB; have HXd := n_HXd; have HXo := n_HXo; clear n_HB n_HXd n_HXo))
    go_wp2_with (refine Kd.event_run rfl (rw_load rfl rfl HXt.out hu137 rfl HI137.out) ?_)
    have HCo := Aside0.mk (rw_C_blk (xs := [1, 1, 1, 0]) (m := 4) (w := w8) HXo.out rfl (by decide) (by decide))
    obtain ⟨⟨b, be⟩, hb0, H⟩ := rw_bind H
    obtain rfl := Option.some.inj H
    have HCd := Aside0.mk (show Kd.C (Kd.int .u8) w8 (some ⟨gd, 0, none⟩) l.length l by rw [HLE.out]; exact rw_C_blk HXd.out rfl HM16.out (by decide))
    refine (lychref1_TcpBytes.calls k fr tp (n % 4294967296) 0 (Go.bits .and .u8 fl 23) 9 s 0 (some ⟨go, 0, none⟩) 4 [1, 1, 1, 0] (some ⟨gd, 0, none⟩) 16 l b be _ HCo.out (by decide) HCd.out HM2.out hb0).mono ?_
    rintro e w9 ⟨v_, rfl, ho, hb⟩
    have HRr := Aside0.mk (Kd.R_lower ho (below_size HB.out))
    clear ho hb0 HCd
    have hb_ := hb
    have n_HB := Aside0.mk (below_step HB.out hb_)
    clear HB hb_
    have HB := n_HB
    clear n_HB
    clear hb
    (try dsimp only)
    go_wp2
    (try simp only [Exit.inBlock, Exit.then])
    go_ret
    exact ⟨_, rfl, HRr.out, HB.out⟩
  ·have c61 : (pr == 6) = false := beq_eq_false_iff_ne.2 c6
   have c62 : (pr != 6) = true := bne_iff_ne.2 c6
   rw [if_neg c6] at H
   clear c6
   (try dsimp only)
   go_upto_region 17 with ((first | (refine rw_skip rfl rfl (rw_new rfl rfl rfl HI101.out rfl (by simp [Value.oneCell'])) ?_)))
   obtain ⟨gm, hgm⟩ : ∃ x_, x_ = w1.heap.size := ⟨_, rfl⟩
   have HXm : Aside0 ((w1.alloc (.cells #[.int .u8 8, .int .u8 0, .int .u16 0, .int .u32 (Go.bits .or .u32 (fr % 4294967296 * 65536 % 4294967296) (n % 4294967296)), .slice (some ⟨gd, 0, none⟩) l.length 16] 101)).heap[gm]? = some (.cells #[.int .u8 8, .int .u8 0, .int .u16 0, .int .u32 (Go.bits .or .u32 (fr % 4294967296 * 65536 % 4294967296) (n % 4294967296)), .slice (some ⟨gd, 0, none⟩) l.length 16] 101 (0, 0))) := ⟨by rw [hgm]; exact rw_blknew _ _⟩
   have GHXm := Aside0.mk (show w.heap.size ≤ gm by rw [hgm]; exact below_size HB.out)
   rw [← hgm]
   clear hgm
   have hb_ := below_alloc (Below.refl w1.heap.size w1) (.cells #[.int .u8 8, .int .u8 0, .int .u16 0, .int .u32 (Go.bits .or .u32 (fr % 4294967296 * 65536 % 4294967296) (n % 4294967296)), .slice (some ⟨gd, 0, none⟩) l.length 16] 101)
   have n_HB := Aside0.mk (below_step HB.out hb_)
   have n_HXd := Aside0.mk (blk_below HXd.out hb_)
   clear HB HXd hb_
   have HB := n_HB
   have HXd := n_HXd
   clear n_HB n_HXd
   generalize (w1.alloc (.cells #[.int .u8 8, .int .u8 0, .int .u16 0, .int .u32 (Go.bits .or .u32 (fr % 4294967296 * 65536 % 4294967296) (n % 4294967296)), .slice (some ⟨gd, 0, none⟩) l.length 16] 101)) = w2 at HXm HB HXd ⊢
   by_cases ci : Go.bits .and .u8 fl 1 = 0
   ·have ci1 : (Go.bits .and .u8 fl 1 == 0) = true := beq_iff_eq.2 ci
    have ci2 : (Go.bits .and .u8 fl 1 != 0) = false := by rw [bne, ci1]; rfl
    rw [if_pos ci] at H
    clear ci
    (try dsimp only)
    go_wp2_with (refine Kd.event_run rfl (rw_load rfl rfl HXm.out hu101 rfl HI101.out) ?_)
    obtain ⟨s, hs0, H⟩ := rw_bind H
    have HCd := Aside0.mk (show Kd.C (Kd.int .u8) w2 (some ⟨gd, 0, none⟩) l.length l by rw [HLE.out]; exact rw_C_blk HXd.out rfl HM16.out (by decide))
    refine (lychref1_IcmpSum.calls k 8 0 0 (Go.bits .or .u32 (fr % 4294967296 * 65536 % 4294967296) (n % 4294967296)) (some ⟨gd, 0, none⟩) 16 l s _ HCd.out HM2.out hs0).mono ?_
    rintro e w7 ⟨rfl, hb⟩
    clear hs0 HCd
    have hb_ := hb
    have n_HB := Aside0.mk (below_step HB.out hb_)
    have n_HXd := Aside0.mk (blk_below HXd.out hb_)
    have n_HXm := Aside0.mk (blk_below HXm.out hb_)
    clear HB HXd HXm hb_
    have HB := n_HB
    have HXd := n_HXd
    have HXm := n_HXm
    clear n_HB n_HXd n_HXm
    clear hb
    (try dsimp only)
    go_upto_region 20 with (((refine rw_set rfl rfl (i := 2) (v := .int .u16 s) (cs' := #[.int .u8 8, .int .u8 0, .int .u16 s, .int .u32 (Go.bits .or .u32 (fr % 4294967296 * 65536 % 4294967296) (n % 4294967296)), .slice (some ⟨gd, 0, none⟩) l.length 16]) HXm.out rfl ?hr_ ?_); (case hr_ => (have m_ := (blk_cell HXm.out 2).trans (rfl : _ = some (.int .u16 0 : Value))); (have mf_ := blk_frozen HXm.out 2); first | (go_simp; done) | (go_simp; rfl)); intro w8 hs_ off_; have n_HB := Aside0.mk (Off.below off_ HB.out GHXm.out); have n_HXd := Aside0.mk (Off.blk off_ HXd.out HXm.out (by decide)); clear HB HXd HXm off_; have HXm := Aside0.mk hs_; clear hs_; have HB := n_HB; have HXd := n_HXd; clear n_HB n_HXd))
    go_wp2_with (refine Kd.event_run rfl (rw_load rfl rfl HXm.out hu101 rfl HI101.out) ?_)
    obtain ⟨⟨b, be⟩, hb0, H⟩ := rw_bind H
    obtain rfl := Option.some.inj H
    have HCd := Aside0.mk (show Kd.C (Kd.int .u8) w8 (some ⟨gd, 0, none⟩) l.length l by rw [HLE.out]; exact rw_C_blk HXd.out rfl HM16.out (by decide))
    refine (lychref1_IcmpBytes.calls 8 0 s (Go.bits .or .u32 (fr % 4294967296 * 65536 % 4294967296) (n % 4294967296)) (some ⟨gd, 0, none⟩) 16 l b be _ HCd.out HM2.out hb0).mono ?_
    rintro e w9 ⟨v_, rfl, ho, hb⟩
    have HRr := Aside0.mk (Kd.R_lower ho (below_size HB.out))
    clear ho hb0 HCd
    have hb_ := hb
    have n_HB := Aside0.mk (below_step HB.out hb_)
    clear HB hb_
    have HB := n_HB
    clear n_HB
    clear hb
    (try dsimp only)
    go_wp2
    (try simp only [Exit.inBlock, Exit.then])
    go_ret
    exact ⟨_, rfl, HRr.out, HB.out⟩
   ·have ci1 : (Go.bits .and .u8 fl 1 == 0) = false := beq_eq_false_iff_ne.2 ci
    have ci2 : (Go.bits .and .u8 fl 1 != 0) = true := bne_iff_ne.2 ci
    rw [if_neg ci] at H
    clear ci
    (try dsimp only)
    go_upto_region 19 with (((refine rw_set rfl rfl (i := 0) (v := .int .u8 0) (cs' := #[.int .u8 0, .int .u8 0, .int .u16 0, .int .u32 (Go.bits .or .u32 (fr % 4294967296 * 65536 % 4294967296) (n % 4294967296)), .slice (some ⟨gd, 0, none⟩) l.length 16]) HXm.out rfl ?hr_ ?_); (case hr_ => (have m_ := (blk_cell HXm.out 0).trans (rfl : _ = some (.int .u8 8 : Value))); (have mf_ := blk_frozen HXm.out 0); first | (go_simp; done) | (go_simp; rfl)); intro w6 hs_ off_; have n_HB := Aside0.mk (Off.below off_ HB.out GHXm.out); have n_HXd := Aside0.mk (Off.blk off_ HXd.out HXm.out (by decide)); clear HB HXd HXm off_; have HXm := Aside0.mk hs_; clear hs_; have HB := n_HB; have HXd := n_HXd; clear n_HB n_HXd))
    go_wp2_with (refine Kd.event_run rfl (rw_load rfl rfl HXm.out hu101 rfl HI101.out) ?_)
    obtain ⟨s, hs0, H⟩ := rw_bind H
    have HCd := Aside0.mk (show Kd.C (Kd.int .u8) w6 (some ⟨gd, 0, none⟩) l.length l by rw [HLE.out]; exact rw_C_blk HXd.out rfl HM16.out (by decide))
    refine (lychref1_IcmpSum.calls k 0 0 0 (Go.bits .or .u32 (fr % 4294967296 * 65536 % 4294967296) (n % 4294967296)) (some ⟨gd, 0, none⟩) 16 l s _ HCd.out HM2.out hs0).mono ?_
    rintro e w7 ⟨rfl, hb⟩
    clear hs0 HCd
    have hb_ := hb
    have n_HB := Aside0.mk (below_step HB.out hb_)
    have n_HXd := Aside0.mk (blk_below HXd.out hb_)
    have n_HXm := Aside0.mk (blk_below HXm.out hb_)
    clear HB HXd HXm hb_
    have HB := n_HB
    have HXd := n_HXd
    have HXm := n_HXm
    clear n_HB n_HXd n_HXm
    clear hb
    (try dsimp only)
    go_upto_region 20 with (((refine rw_set rfl rfl (i := 2) (v := .int .u16 s) (cs' := #[.int .u8 0, .int .u8 0, .int .u16 s, .int .u32 (Go.bits .or .u32 (fr % 4294967296 * 65536 % 4294967296) (n % 4294967296)), .slice (some ⟨gd, 0, none⟩) l.length 16]) HXm.out rfl ?hr_ ?_); (case hr_ => (have m_ := (blk_cell HXm.out 2).trans (rfl : _ = some (.int .u16 0 : Value))); (have mf_ := blk_frozen HXm.out 2); first | (go_simp; done) | (go_simp; rfl)); intro w8 hs_ off_; have n_HB := Aside0.mk (Off.below off_ HB.out GHXm.out); have n_HXd := Aside0.mk (Off.blk off_ HXd.out HXm.out (by decide)); clear HB HXd HXm off_; have HXm := Aside0.mk hs_; clear hs_; have HB := n_HB; have HXd := n_HXd; clear n_HB n_HXd))
    go_wp2_with (refine Kd.event_run rfl (rw_load rfl rfl HXm.out hu101 rfl HI101.out) ?_)
    obtain ⟨⟨b, be⟩, hb0, H⟩ := rw_bind H
    obtain rfl := Option.some.inj H
    have HCd := Aside0.mk (show Kd.C (Kd.int .u8) w8 (some ⟨gd, 0, none⟩) l.length l by rw [HLE.out]; exact rw_C_blk HXd.out rfl HM16.out (by decide))
    refine (lychref1_IcmpBytes.calls 0 0 s (Go.bits .or .u32 (fr % 4294967296 * 65536 % 4294967296) (n % 4294967296)) (some ⟨gd, 0, none⟩) 16 l b be _ HCd.out HM2.out hb0).mono ?_
    rintro e w9 ⟨v_, rfl, ho, hb⟩
    have HRr := Aside0.mk (Kd.R_lower ho (below_size HB.out))
    clear ho hb0 HCd
    have hb_ := hb
    have n_HB := Aside0.mk (below_step HB.out hb_)
    clear HB hb_
    have HB := n_HB
    clear n_HB
    clear hb
    (try dsimp only)
    go_wp2
    (try simp only [Exit.inBlock, Exit.then])
    go_ret
    exact ⟨_, rfl, HRr.out, HB.out⟩
end Go.Proofs.Ytkmimamminddiaa.PB
