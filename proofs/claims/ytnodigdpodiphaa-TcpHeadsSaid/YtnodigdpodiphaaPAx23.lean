-- written by a patched print
import Derived.Test.YtnodigdpodiphaaPAx0
import Derived.Test.YtnodigdpodiphaaPAx1
import Derived.Test.YtnodigdpodiphaaPAx22
namespace Go.Proofs.Ytnodigdpodiphaa.PA
open Go.RowKit Go.Proofs.YtnodigdpodiphaaW.PrintWords Go.Proofs.YtnodigdpodiphaaW.PrintLast Go.Proofs.YtnodigdpodiphaaW.PrintMore
attribute [local go_sem] max2_int min2_int max_two min_two max_three min_three max_four min_four   -- for this text's walks alone
set_option linter.unusedVariables false
set_option linter.unusedSimpArgs false

/-! ### tcp_Parse: function 26 -/
def tcp_Parse.f (l0 : List Int) : Option (Int × Int × Int × Int × Int × Int × Int × Int × List Int × List Int × Int) := if (l0.length : Int) < 20 then (some (0, 0, 0, 0, 0, 0, 0, 0, ([] : List Int), ([] : List Int), 20)) else (if 12 < (l0.length : Int) then (if (wrap64 (4 * (wrap64 ((rd l0 12) / 16)))) < 20 then (some (0, 0, 0, 0, 0, 0, 0, 0, ([] : List Int), ([] : List Int), 21)) else (if (l0.length : Int) < (wrap64 (4 * (wrap64 ((rd l0 12) / 16)))) then (some (0, 0, 0, 0, 0, 0, 0, 0, ([] : List Int), ([] : List Int), 20)) else (if 2 ≤ (l0.length : Int) then ((tcp_two.f ((l0.take 2).drop 0)).bind fun t333 => (if 4 ≤ (l0.length : Int) then ((tcp_two.f ((l0.take 4).drop 2)).bind fun t335 => (if 8 ≤ (l0.length : Int) then ((tcp_four.f ((l0.take 8).drop 4)).bind fun t337 => (if 12 ≤ (l0.length : Int) then ((tcp_four.f ((l0.take 12).drop 8)).bind fun t339 => (if 13 < (l0.length : Int) then (if 16 ≤ (l0.length : Int) then ((tcp_two.f ((l0.take 16).drop 14)).bind fun t342 => (if 18 ≤ (l0.length : Int) then ((tcp_two.f ((l0.take 18).drop 16)).bind fun t344 => (if 20 ≤ (l0.length : Int) then ((tcp_two.f ((l0.take 20).drop 18)).bind fun t346 => (if 20 ≤ (wrap64 (4 * (wrap64 ((rd l0 12) / 16)))) then (if (wrap64 (4 * (wrap64 ((rd l0 12) / 16)))) ≤ (l0.length : Int) then ((slices_Clone_byte_byte.f ((l0.take ((wrap64 (4 * (wrap64 ((rd l0 12) / 16)))) : Int).toNat).drop 20)).bind fun t348 => (if 0 ≤ (wrap64 (4 * (wrap64 ((rd l0 12) / 16)))) then ((slices_Clone_byte_byte.f (l0.drop ((wrap64 (4 * (wrap64 ((rd l0 12) / 16)))) : Int).toNat)).bind fun t352 => (some (t333, t335, t337, t339, rd l0 13, t342, t344, t346, t348, t352, 0))) else (none))) else (none)) else (none))) else (none))) else (none))) else (none)) else (none))) else (none))) else (none))) else (none))) else (none)))) else (none))
def tcp_Parse.T8 : Bool × List (List Nat × List Nat) := (true, [([], []), ([0], [0]), ([1], [1]), ([], []), ([3], [3]), ([4, 2], [4]), ([], []), ([6], [6]), ([7, 5], [7]), ([], []), ([9], [9]), ([10, 8], [10]), ([], []), ([12], [12]), ([13], [13]), ([], []), ([15], [15]), ([16, 11], [16]), ([], []), ([18], [18]), ([19, 17], [19]), ([], []), ([21], [21]), ([22, 20], [22]), ([], []), ([], []), ([], []), ([24, 25, 26], [24, 25, 26]), ([27, 23], [27]), ([], []), ([], []), ([29, 30], [29, 30]), ([31, 28], [31]), ([2, 5, 8, 11, 14, 17, 20, 23, 28, 32], [2, 5, 8, 11, 14, 17, 20, 23, 28, 32]), ([33, 32, 0, 1, 2, 3, 4, 5, 6, 7, 8, 9, 10, 11, 12, 13, 14, 15, 16, 17, 18, 19, 20, 21, 22, 23, 24, 25, 26, 27, 28, 29, 30, 31, 32, 33], [33]), ([34, 0, 1, 2, 3, 4, 5, 6, 7, 8, 9, 10, 11, 12, 13, 14, 15, 16, 17, 18, 19, 20, 21, 22, 23, 24, 25, 26, 27, 28, 29, 30, 31, 32, 33, 34], [])])
def tcp_Parse.B8 : List Nat := [0, 1, 3, 0, 8, 31, 0, 64, 255, 0, 512, 2047, 0, 4096, 12288, 0, 32768, 102399, 0, 262144, 1019903, 0, 2097152, 8359935, 0, 0, 0, 117440512, 268406783, 0, 0, 1610612736, 4294938623, 8589934591, 17179869183, 34359738367]
theorem tcp_Parse.tab8 : rtab .any (opsOf Try.f26 8) = tcp_Parse.T8 := by kernel_rfl
theorem tcp_Parse.bits8 : waitsOk tcp_Parse.T8.2 tcp_Parse.B8 = true := by kernel_rfl
set_option maxHeartbeats 8000000 in
set_option maxRecDepth 100000 in
theorem tcp_Parse.calls (A0 : Option Addr) (c0 : Nat) (l0 : List Int) (r1 : Int) (r2 : Int) (r3 : Int) (r4 : Int) (r5 : Int) (r6 : Int) (r7 : Int) (r8 : Int) (r9 : List Int) (r10 : List Int) (r11 : Int) (w : World) (hr0 : Kd.C (Kd.int .u8) w A0 l0.length l0) (hc0 : l0.length ≤ c0) (h : tcp_Parse.f l0 = some (r1, r2, r3, r4, r5, r6, r7, r8, r9, r10, r11)) :
    Calls Try.prog 26 #[.slice A0 l0.length c0] w fun e w' => ∃ v8_ v9_ : Value, e = .returned (.tuple #[.agg #[.int .u16 r1, .int .u16 r2, .int .u32 r3, .int .u32 r4, .int .u8 r5, .int .u16 r6, .int .u16 r7, .int .u16 r8, v8_, v9_], .int .i64 r11]) ∧ Kd.R (Kd.int .u8) 5 w' w.heap.size (fun k_ => some k_ ≠ (v9_ : Value).ownBlock) v8_ r9 ∧ Kd.R (Kd.int .u8) 5 w' w.heap.size (fun k_ => some k_ ≠ (v8_ : Value).ownBlock) v9_ r10 ∧ Below w.heap.size w w' := by
  have hu49 := Try.underlying49
  have HR0 := Aside0.mk hr0
  have HC0 := Aside0.mk hc0
  clear hr0 hc0
  have HB := Aside0.mk (Below.refl w.heap.size w)
  have H : (if (l0.length : Int) < 20 then (some (0, 0, 0, 0, 0, 0, 0, 0, ([] : List Int), ([] : List Int), 20)) else (if 12 < (l0.length : Int) then (if (wrap64 (4 * (wrap64 ((rd l0 12) / 16)))) < 20 then (some (0, 0, 0, 0, 0, 0, 0, 0, ([] : List Int), ([] : List Int), 21)) else (if (l0.length : Int) < (wrap64 (4 * (wrap64 ((rd l0 12) / 16)))) then (some (0, 0, 0, 0, 0, 0, 0, 0, ([] : List Int), ([] : List Int), 20)) else (if 2 ≤ (l0.length : Int) then ((tcp_two.f ((l0.take 2).drop 0)).bind fun t333 => (if 4 ≤ (l0.length : Int) then ((tcp_two.f ((l0.take 4).drop 2)).bind fun t335 => (if 8 ≤ (l0.length : Int) then ((tcp_four.f ((l0.take 8).drop 4)).bind fun t337 => (if 12 ≤ (l0.length : Int) then ((tcp_four.f ((l0.take 12).drop 8)).bind fun t339 => (if 13 < (l0.length : Int) then (if 16 ≤ (l0.length : Int) then ((tcp_two.f ((l0.take 16).drop 14)).bind fun t342 => (if 18 ≤ (l0.length : Int) then ((tcp_two.f ((l0.take 18).drop 16)).bind fun t344 => (if 20 ≤ (l0.length : Int) then ((tcp_two.f ((l0.take 20).drop 18)).bind fun t346 => (if 20 ≤ (wrap64 (4 * (wrap64 ((rd l0 12) / 16)))) then (if (wrap64 (4 * (wrap64 ((rd l0 12) / 16)))) ≤ (l0.length : Int) then ((slices_Clone_byte_byte.f ((l0.take ((wrap64 (4 * (wrap64 ((rd l0 12) / 16)))) : Int).toNat).drop 20)).bind fun t348 => (if 0 ≤ (wrap64 (4 * (wrap64 ((rd l0 12) / 16)))) then ((slices_Clone_byte_byte.f (l0.drop ((wrap64 (4 * (wrap64 ((rd l0 12) / 16)))) : Int).toNat)).bind fun t352 => (some (t333, t335, t337, t339, rd l0 13, t342, t344, t346, t348, t352, 0))) else (none))) else (none)) else (none))) else (none))) else (none))) else (none)) else (none))) else (none))) else (none))) else (none))) else (none)))) else (none))) = some (r1, r2, r3, r4, r5, r6, r7, r8, r9, r10, r11) := h
  clear h
  by_cases c2 : (l0.length : Int) < 20
  · rw [if_pos c2] at H
    have c2b0 : decide ((l0.length : Int) < 20) = true := decide_eq_true c2
    have c2b1 : decide (l0.length < 20) = true := decide_eq_true (by omega)
    clear c2
    simp only [Option.some.injEq, Prod.mk.injEq] at H
    obtain ⟨rfl, rfl, rfl, rfl, rfl, rfl, rfl, rfl, rfl, rfl, rfl⟩ := H
    go_enter Try.func26, Try.ntmps26
    go_wp2_with (first | ((with_reducible refine gate_dst (N := 2) rfl ?_); refine box_event ?hg (N := 2) ?hd (cs := #[.int .u16 0, .int .u16 0, .int .u32 0, .int .u32 0, .int .u8 0, .int .u16 0, .int .u16 0, .int .u16 0, .slice none 0 0, .slice none 0 0]) (t := 49) ?hr ?_; (case hd => rfl); (case hg => rfl); (case hr => first | (go_simp; done) | (go_simp; rfl)); intro gb330 hg w3 hbox hb; have n0_ := Aside0.mk (below_step (by repeat (first | (with_reducible first | exact HB.out | apply below_alloc | apply pw_below_drewN | apply below_drew1) | exact HB.out)) hb); have n1_ := Aside0.mk (hbox); have n2_ := Aside0.mk ((by rw [hg]; exact (below_size (by repeat (first | (with_reducible first | exact HB.out | apply below_alloc | apply pw_below_drewN | apply below_drew1) | exact HB.out))) : w.heap.size ≤ gb330)); have n3_ := Aside0.mk ((by rw [hg]; exact (below_size (by repeat (first | (with_reducible first | exact HB.out | apply below_alloc | apply pw_below_drewN | apply below_drew1) | exact HB.out))) : w.heap.size ≤ gb330)); clear HB; have HB := n0_; have BK330 := n1_; have GW330 := n2_; have GE330 := n3_; clear n0_ n1_ n2_ n3_; clear hb hbox hg; have hcz4_0 : w3.cell? ⟨gb330, 0, none⟩ = some (.int .u16 0) := (blk_cell BK330.out 0).trans rfl; have hcz4_1 : w3.cell? ⟨gb330, 1, none⟩ = some (.int .u16 0) := (blk_cell BK330.out 1).trans rfl; have hcz4_2 : w3.cell? ⟨gb330, 2, none⟩ = some (.int .u32 0) := (blk_cell BK330.out 2).trans rfl; have hcz4_3 : w3.cell? ⟨gb330, 3, none⟩ = some (.int .u32 0) := (blk_cell BK330.out 3).trans rfl; have hcz4_4 : w3.cell? ⟨gb330, 4, none⟩ = some (.int .u8 0) := (blk_cell BK330.out 4).trans rfl; have hcz4_5 : w3.cell? ⟨gb330, 5, none⟩ = some (.int .u16 0) := (blk_cell BK330.out 5).trans rfl; have hcz4_6 : w3.cell? ⟨gb330, 6, none⟩ = some (.int .u16 0) := (blk_cell BK330.out 6).trans rfl; have hcz4_7 : w3.cell? ⟨gb330, 7, none⟩ = some (.int .u16 0) := (blk_cell BK330.out 7).trans rfl; have hcz4_8 : w3.cell? ⟨gb330, 8, none⟩ = some (.slice none 0 0) := (blk_cell BK330.out 8).trans rfl; have hcz4_9 : w3.cell? ⟨gb330, 9, none⟩ = some (.slice none 0 0) := (blk_cell BK330.out 9).trans rfl; have hfz4_0 := blk_frozen BK330.out 0; have hfz4_1 := blk_frozen BK330.out 1; have hfz4_2 := blk_frozen BK330.out 2; have hfz4_3 := blk_frozen BK330.out 3; have hfz4_4 := blk_frozen BK330.out 4; have hfz4_5 := blk_frozen BK330.out 5; have hfz4_6 := blk_frozen BK330.out 6; have hfz4_7 := blk_frozen BK330.out 7; have hfz4_8 := blk_frozen BK330.out 8; have hfz4_9 := blk_frozen BK330.out 9))
    refine bodyPost_ret (results_ct rfl _ _ gb330 49 #[.int .u16 0, .int .u16 0, .int .u32 0, .int .u32 0, .int .u8 0, .int .u16 0, .int .u16 0, .int .u16 0, .slice none 0 0, .slice none 0 0] (0, 0) _ rfl (by (with_reducible repeat (first | refine blk_drewN ?_ _ | refine blk_drew ?_ | refine blk_alloc ?_ _)); refine blk_put (cs := #[.int .u16 0, .int .u16 0, .int .u32 0, .int .u32 0, .int .u8 0, .int .u16 0, .int .u16 0, .int .u16 0, .slice none 0 0, .slice none 0 0]) ?_ 9 _ rfl; (with_reducible repeat (first | refine blk_drewN ?_ _ | refine blk_drew ?_ | refine blk_alloc ?_ _)); refine blk_put (cs := #[.int .u16 0, .int .u16 0, .int .u32 0, .int .u32 0, .int .u8 0, .int .u16 0, .int .u16 0, .int .u16 0, .slice none 0 0, .slice none 0 0]) ?_ 8 _ rfl; (with_reducible repeat (first | refine blk_drewN ?_ _ | refine blk_drew ?_ | refine blk_alloc ?_ _)); refine blk_put (cs := #[.int .u16 0, .int .u16 0, .int .u32 0, .int .u32 0, .int .u8 0, .int .u16 0, .int .u16 0, .int .u16 0, .slice none 0 0, .slice none 0 0]) ?_ 7 _ rfl; (with_reducible repeat (first | refine blk_drewN ?_ _ | refine blk_drew ?_ | refine blk_alloc ?_ _)); refine blk_put (cs := #[.int .u16 0, .int .u16 0, .int .u32 0, .int .u32 0, .int .u8 0, .int .u16 0, .int .u16 0, .int .u16 0, .slice none 0 0, .slice none 0 0]) ?_ 6 _ rfl; (with_reducible repeat (first | refine blk_drewN ?_ _ | refine blk_drew ?_ | refine blk_alloc ?_ _)); refine blk_put (cs := #[.int .u16 0, .int .u16 0, .int .u32 0, .int .u32 0, .int .u8 0, .int .u16 0, .int .u16 0, .int .u16 0, .slice none 0 0, .slice none 0 0]) ?_ 5 _ rfl; (with_reducible repeat (first | refine blk_drewN ?_ _ | refine blk_drew ?_ | refine blk_alloc ?_ _)); refine blk_put (cs := #[.int .u16 0, .int .u16 0, .int .u32 0, .int .u32 0, .int .u8 0, .int .u16 0, .int .u16 0, .int .u16 0, .slice none 0 0, .slice none 0 0]) ?_ 4 _ rfl; (with_reducible repeat (first | refine blk_drewN ?_ _ | refine blk_drew ?_ | refine blk_alloc ?_ _)); refine blk_put (cs := #[.int .u16 0, .int .u16 0, .int .u32 0, .int .u32 0, .int .u8 0, .int .u16 0, .int .u16 0, .int .u16 0, .slice none 0 0, .slice none 0 0]) ?_ 3 _ rfl; (with_reducible repeat (first | refine blk_drewN ?_ _ | refine blk_drew ?_ | refine blk_alloc ?_ _)); refine blk_put (cs := #[.int .u16 0, .int .u16 0, .int .u32 0, .int .u32 0, .int .u8 0, .int .u16 0, .int .u16 0, .int .u16 0, .slice none 0 0, .slice none 0 0]) ?_ 2 _ rfl; (with_reducible repeat (first | refine blk_drewN ?_ _ | refine blk_drew ?_ | refine blk_alloc ?_ _)); refine blk_put (cs := #[.int .u16 0, .int .u16 0, .int .u32 0, .int .u32 0, .int .u8 0, .int .u16 0, .int .u16 0, .int .u16 0, .slice none 0 0, .slice none 0 0]) ?_ 1 _ rfl; (with_reducible repeat (first | refine blk_drewN ?_ _ | refine blk_drew ?_ | refine blk_alloc ?_ _)); refine blk_put (cs := #[.int .u16 0, .int .u16 0, .int .u32 0, .int .u32 0, .int .u8 0, .int .u16 0, .int .u16 0, .int .u16 0, .slice none 0 0, .slice none 0 0]) ?_ 0 _ rfl; (with_reducible repeat (first | refine blk_drewN ?_ _ | refine blk_drew ?_ | refine blk_alloc ?_ _)); exact BK330.out) Try.underlying49 rfl (by kernel_rfl)) rfl ?_
    exact ⟨_, _, by first | rfl | (simp [errW_none, errW_some] <;> rfl) | (simp [*, errW_none, errW_some] <;> rfl), by first | exact Kd.R_nil _ _ _ _ _ | exact Kd.N_nil _ _ _ _ _ | exact Kd.V_nil _ _ _ _ _ | exact Kd.Q_nil _ _ _ _ _ | exact Kd.S_nil _ _ _ _ _, by first | exact Kd.R_nil _ _ _ _ _ | exact Kd.N_nil _ _ _ _ _ | exact Kd.V_nil _ _ _ _ _ | exact Kd.Q_nil _ _ _ _ _ | exact Kd.S_nil _ _ _ _ _, by repeat (first | (with_reducible first | exact HB.out | apply below_alloc | apply pw_below_drewN | apply below_drew1 | refine below_set ?_ GE330.out) | exact HB.out)⟩
  · rw [if_neg c2] at H
    have c2b0 : decide ((l0.length : Int) < 20) = false := decide_eq_false c2
    have c2b1 : decide (l0.length < 20) = false := decide_eq_false (by omega)
    clear c2
    by_cases c5 : 12 < (l0.length : Int)
    · rw [if_pos c5] at H
      have c5b0 : decide (12 < (l0.length : Int)) = true := decide_eq_true c5
      have c5b1 : decide (12 < l0.length) = true := decide_eq_true (by omega)
      clear c5
      by_cases c6 : (wrap64 (4 * (wrap64 ((rd l0 12) / 16)))) < 20
      · rw [if_pos c6] at H
        have c6b0 : decide ((wrap64 (4 * (wrap64 ((rd l0 12) / 16)))) < 20) = true := decide_eq_true c6
        clear c6
        simp only [Option.some.injEq, Prod.mk.injEq] at H
        obtain ⟨rfl, rfl, rfl, rfl, rfl, rfl, rfl, rfl, rfl, rfl, rfl⟩ := H
        go_enter Try.func26, Try.ntmps26
        go_wp2_with (first | ((with_reducible refine gate_dst (N := 2) rfl ?_); refine box_event ?hg (N := 2) ?hd (cs := #[.int .u16 0, .int .u16 0, .int .u32 0, .int .u32 0, .int .u8 0, .int .u16 0, .int .u16 0, .int .u16 0, .slice none 0 0, .slice none 0 0]) (t := 49) ?hr ?_; (case hd => rfl); (case hg => rfl); (case hr => first | (go_simp; done) | (go_simp; rfl)); intro gb330 hg w7 hbox hb; have n0_ := Aside0.mk (below_step (by repeat (first | (with_reducible first | exact HB.out | apply below_alloc | apply pw_below_drewN | apply below_drew1) | exact HB.out)) hb); have n1_ := Aside0.mk (hbox); have n2_ := Aside0.mk ((by rw [hg]; exact (below_size (by repeat (first | (with_reducible first | exact HB.out | apply below_alloc | apply pw_below_drewN | apply below_drew1) | exact HB.out))) : w.heap.size ≤ gb330)); have n3_ := Aside0.mk ((by rw [hg]; exact (below_size (by repeat (first | (with_reducible first | exact HB.out | apply below_alloc | apply pw_below_drewN | apply below_drew1) | exact HB.out))) : w.heap.size ≤ gb330)); clear HB; have HB := n0_; have BK330 := n1_; have GW330 := n2_; have GE330 := n3_; clear n0_ n1_ n2_ n3_; clear hb hbox hg; have p331 : 0 ≤ (12 : Int) := (by omega); have q331 : 12 < (l0.length : Int) := of_decide_eq_true (by first | (with_reducible assumption) | assumption); obtain ⟨ad331, e331, hx331_0⟩ := Kd.at_int HR0.out 12 p331 q331; cases e331; (try simp only [show (12 : Int).toNat = 12 from rfl, Nat.reduceMul, Nat.reduceEqDiff, Go.Addr.add, ↓reduceIte] at hx331_0); have qi331 : (12 < l0.length) = True := eq_true (by omega); (try rw [show ((12 : Int)).toNat = 12 from rfl] at hx331_0); replace hx331_0 := (HB.out.cell (World.block_lt_of_cell? w _ hx331_0)).trans hx331_0; replace p331 := eq_true p331; replace q331 := eq_true q331; have hcz8_0 : w7.cell? ⟨gb330, 0, none⟩ = some (.int .u16 0) := (blk_cell BK330.out 0).trans rfl; have hcz8_1 : w7.cell? ⟨gb330, 1, none⟩ = some (.int .u16 0) := (blk_cell BK330.out 1).trans rfl; have hcz8_2 : w7.cell? ⟨gb330, 2, none⟩ = some (.int .u32 0) := (blk_cell BK330.out 2).trans rfl; have hcz8_3 : w7.cell? ⟨gb330, 3, none⟩ = some (.int .u32 0) := (blk_cell BK330.out 3).trans rfl; have hcz8_4 : w7.cell? ⟨gb330, 4, none⟩ = some (.int .u8 0) := (blk_cell BK330.out 4).trans rfl; have hcz8_5 : w7.cell? ⟨gb330, 5, none⟩ = some (.int .u16 0) := (blk_cell BK330.out 5).trans rfl; have hcz8_6 : w7.cell? ⟨gb330, 6, none⟩ = some (.int .u16 0) := (blk_cell BK330.out 6).trans rfl; have hcz8_7 : w7.cell? ⟨gb330, 7, none⟩ = some (.int .u16 0) := (blk_cell BK330.out 7).trans rfl; have hcz8_8 : w7.cell? ⟨gb330, 8, none⟩ = some (.slice none 0 0) := (blk_cell BK330.out 8).trans rfl; have hcz8_9 : w7.cell? ⟨gb330, 9, none⟩ = some (.slice none 0 0) := (blk_cell BK330.out 9).trans rfl; have hfz8_0 := blk_frozen BK330.out 0; have hfz8_1 := blk_frozen BK330.out 1; have hfz8_2 := blk_frozen BK330.out 2; have hfz8_3 := blk_frozen BK330.out 3; have hfz8_4 := blk_frozen BK330.out 4; have hfz8_5 := blk_frozen BK330.out 5; have hfz8_6 := blk_frozen BK330.out 6; have hfz8_7 := blk_frozen BK330.out 7; have hfz8_8 := blk_frozen BK330.out 8; have hfz8_9 := blk_frozen BK330.out 9))
        refine bodyPost_ret (results_ct rfl _ _ gb330 49 #[.int .u16 0, .int .u16 0, .int .u32 0, .int .u32 0, .int .u8 0, .int .u16 0, .int .u16 0, .int .u16 0, .slice none 0 0, .slice none 0 0] (0, 0) _ rfl (by (with_reducible repeat (first | refine blk_drewN ?_ _ | refine blk_drew ?_ | refine blk_alloc ?_ _)); refine blk_put (cs := #[.int .u16 0, .int .u16 0, .int .u32 0, .int .u32 0, .int .u8 0, .int .u16 0, .int .u16 0, .int .u16 0, .slice none 0 0, .slice none 0 0]) ?_ 9 _ rfl; (with_reducible repeat (first | refine blk_drewN ?_ _ | refine blk_drew ?_ | refine blk_alloc ?_ _)); refine blk_put (cs := #[.int .u16 0, .int .u16 0, .int .u32 0, .int .u32 0, .int .u8 0, .int .u16 0, .int .u16 0, .int .u16 0, .slice none 0 0, .slice none 0 0]) ?_ 8 _ rfl; (with_reducible repeat (first | refine blk_drewN ?_ _ | refine blk_drew ?_ | refine blk_alloc ?_ _)); refine blk_put (cs := #[.int .u16 0, .int .u16 0, .int .u32 0, .int .u32 0, .int .u8 0, .int .u16 0, .int .u16 0, .int .u16 0, .slice none 0 0, .slice none 0 0]) ?_ 7 _ rfl; (with_reducible repeat (first | refine blk_drewN ?_ _ | refine blk_drew ?_ | refine blk_alloc ?_ _)); refine blk_put (cs := #[.int .u16 0, .int .u16 0, .int .u32 0, .int .u32 0, .int .u8 0, .int .u16 0, .int .u16 0, .int .u16 0, .slice none 0 0, .slice none 0 0]) ?_ 6 _ rfl; (with_reducible repeat (first | refine blk_drewN ?_ _ | refine blk_drew ?_ | refine blk_alloc ?_ _)); refine blk_put (cs := #[.int .u16 0, .int .u16 0, .int .u32 0, .int .u32 0, .int .u8 0, .int .u16 0, .int .u16 0, .int .u16 0, .slice none 0 0, .slice none 0 0]) ?_ 5 _ rfl; (with_reducible repeat (first | refine blk_drewN ?_ _ | refine blk_drew ?_ | refine blk_alloc ?_ _)); refine blk_put (cs := #[.int .u16 0, .int .u16 0, .int .u32 0, .int .u32 0, .int .u8 0, .int .u16 0, .int .u16 0, .int .u16 0, .slice none 0 0, .slice none 0 0]) ?_ 4 _ rfl; (with_reducible repeat (first | refine blk_drewN ?_ _ | refine blk_drew ?_ | refine blk_alloc ?_ _)); refine blk_put (cs := #[.int .u16 0, .int .u16 0, .int .u32 0, .int .u32 0, .int .u8 0, .int .u16 0, .int .u16 0, .int .u16 0, .slice none 0 0, .slice none 0 0]) ?_ 3 _ rfl; (with_reducible repeat (first | refine blk_drewN ?_ _ | refine blk_drew ?_ | refine blk_alloc ?_ _)); refine blk_put (cs := #[.int .u16 0, .int .u16 0, .int .u32 0, .int .u32 0, .int .u8 0, .int .u16 0, .int .u16 0, .int .u16 0, .slice none 0 0, .slice none 0 0]) ?_ 2 _ rfl; (with_reducible repeat (first | refine blk_drewN ?_ _ | refine blk_drew ?_ | refine blk_alloc ?_ _)); refine blk_put (cs := #[.int .u16 0, .int .u16 0, .int .u32 0, .int .u32 0, .int .u8 0, .int .u16 0, .int .u16 0, .int .u16 0, .slice none 0 0, .slice none 0 0]) ?_ 1 _ rfl; (with_reducible repeat (first | refine blk_drewN ?_ _ | refine blk_drew ?_ | refine blk_alloc ?_ _)); refine blk_put (cs := #[.int .u16 0, .int .u16 0, .int .u32 0, .int .u32 0, .int .u8 0, .int .u16 0, .int .u16 0, .int .u16 0, .slice none 0 0, .slice none 0 0]) ?_ 0 _ rfl; (with_reducible repeat (first | refine blk_drewN ?_ _ | refine blk_drew ?_ | refine blk_alloc ?_ _)); exact BK330.out) Try.underlying49 rfl (by kernel_rfl)) rfl ?_
        exact ⟨_, _, by first | rfl | (simp [errW_none, errW_some] <;> rfl) | (simp [*, errW_none, errW_some] <;> rfl), by first | exact Kd.R_nil _ _ _ _ _ | exact Kd.N_nil _ _ _ _ _ | exact Kd.V_nil _ _ _ _ _ | exact Kd.Q_nil _ _ _ _ _ | exact Kd.S_nil _ _ _ _ _, by first | exact Kd.R_nil _ _ _ _ _ | exact Kd.N_nil _ _ _ _ _ | exact Kd.V_nil _ _ _ _ _ | exact Kd.Q_nil _ _ _ _ _ | exact Kd.S_nil _ _ _ _ _, by repeat (first | (with_reducible first | exact HB.out | apply below_alloc | apply pw_below_drewN | apply below_drew1 | refine below_set ?_ GE330.out) | exact HB.out)⟩
      · rw [if_neg c6] at H
        have c6b0 : decide ((wrap64 (4 * (wrap64 ((rd l0 12) / 16)))) < 20) = false := decide_eq_false c6
        clear c6
        by_cases c9 : (l0.length : Int) < (wrap64 (4 * (wrap64 ((rd l0 12) / 16))))
        · rw [if_pos c9] at H
          have c9b0 : decide ((l0.length : Int) < (wrap64 (4 * (wrap64 ((rd l0 12) / 16))))) = true := decide_eq_true c9
          clear c9
          simp only [Option.some.injEq, Prod.mk.injEq] at H
          obtain ⟨rfl, rfl, rfl, rfl, rfl, rfl, rfl, rfl, rfl, rfl, rfl⟩ := H
          go_enter Try.func26, Try.ntmps26
          go_wp2_with (first | ((with_reducible refine gate_dst (N := 2) rfl ?_); refine box_event ?hg (N := 2) ?hd (cs := #[.int .u16 0, .int .u16 0, .int .u32 0, .int .u32 0, .int .u8 0, .int .u16 0, .int .u16 0, .int .u16 0, .slice none 0 0, .slice none 0 0]) (t := 49) ?hr ?_; (case hd => rfl); (case hg => rfl); (case hr => first | (go_simp; done) | (go_simp; rfl)); intro gb330 hg w10 hbox hb; have n0_ := Aside0.mk (below_step (by repeat (first | (with_reducible first | exact HB.out | apply below_alloc | apply pw_below_drewN | apply below_drew1) | exact HB.out)) hb); have n1_ := Aside0.mk (hbox); have n2_ := Aside0.mk ((by rw [hg]; exact (below_size (by repeat (first | (with_reducible first | exact HB.out | apply below_alloc | apply pw_below_drewN | apply below_drew1) | exact HB.out))) : w.heap.size ≤ gb330)); have n3_ := Aside0.mk ((by rw [hg]; exact (below_size (by repeat (first | (with_reducible first | exact HB.out | apply below_alloc | apply pw_below_drewN | apply below_drew1) | exact HB.out))) : w.heap.size ≤ gb330)); clear HB; have HB := n0_; have BK330 := n1_; have GW330 := n2_; have GE330 := n3_; clear n0_ n1_ n2_ n3_; clear hb hbox hg; have p331 : 0 ≤ (12 : Int) := (by omega); have q331 : 12 < (l0.length : Int) := of_decide_eq_true (by first | (with_reducible assumption) | assumption); obtain ⟨ad331, e331, hx331_0⟩ := Kd.at_int HR0.out 12 p331 q331; cases e331; (try simp only [show (12 : Int).toNat = 12 from rfl, Nat.reduceMul, Nat.reduceEqDiff, Go.Addr.add, ↓reduceIte] at hx331_0); have qi331 : (12 < l0.length) = True := eq_true (by omega); (try rw [show ((12 : Int)).toNat = 12 from rfl] at hx331_0); replace hx331_0 := (HB.out.cell (World.block_lt_of_cell? w _ hx331_0)).trans hx331_0; replace p331 := eq_true p331; replace q331 := eq_true q331; have hcz11_0 : w10.cell? ⟨gb330, 0, none⟩ = some (.int .u16 0) := (blk_cell BK330.out 0).trans rfl; have hcz11_1 : w10.cell? ⟨gb330, 1, none⟩ = some (.int .u16 0) := (blk_cell BK330.out 1).trans rfl; have hcz11_2 : w10.cell? ⟨gb330, 2, none⟩ = some (.int .u32 0) := (blk_cell BK330.out 2).trans rfl; have hcz11_3 : w10.cell? ⟨gb330, 3, none⟩ = some (.int .u32 0) := (blk_cell BK330.out 3).trans rfl; have hcz11_4 : w10.cell? ⟨gb330, 4, none⟩ = some (.int .u8 0) := (blk_cell BK330.out 4).trans rfl; have hcz11_5 : w10.cell? ⟨gb330, 5, none⟩ = some (.int .u16 0) := (blk_cell BK330.out 5).trans rfl; have hcz11_6 : w10.cell? ⟨gb330, 6, none⟩ = some (.int .u16 0) := (blk_cell BK330.out 6).trans rfl; have hcz11_7 : w10.cell? ⟨gb330, 7, none⟩ = some (.int .u16 0) := (blk_cell BK330.out 7).trans rfl; have hcz11_8 : w10.cell? ⟨gb330, 8, none⟩ = some (.slice none 0 0) := (blk_cell BK330.out 8).trans rfl; have hcz11_9 : w10.cell? ⟨gb330, 9, none⟩ = some (.slice none 0 0) := (blk_cell BK330.out 9).trans rfl; have hfz11_0 := blk_frozen BK330.out 0; have hfz11_1 := blk_frozen BK330.out 1; have hfz11_2 := blk_frozen BK330.out 2; have hfz11_3 := blk_frozen BK330.out 3; have hfz11_4 := blk_frozen BK330.out 4; have hfz11_5 := blk_frozen BK330.out 5; have hfz11_6 := blk_frozen BK330.out 6; have hfz11_7 := blk_frozen BK330.out 7; have hfz11_8 := blk_frozen BK330.out 8; have hfz11_9 := blk_frozen BK330.out 9))
          refine bodyPost_ret (results_ct rfl _ _ gb330 49 #[.int .u16 0, .int .u16 0, .int .u32 0, .int .u32 0, .int .u8 0, .int .u16 0, .int .u16 0, .int .u16 0, .slice none 0 0, .slice none 0 0] (0, 0) _ rfl (by (with_reducible repeat (first | refine blk_drewN ?_ _ | refine blk_drew ?_ | refine blk_alloc ?_ _)); refine blk_put (cs := #[.int .u16 0, .int .u16 0, .int .u32 0, .int .u32 0, .int .u8 0, .int .u16 0, .int .u16 0, .int .u16 0, .slice none 0 0, .slice none 0 0]) ?_ 9 _ rfl; (with_reducible repeat (first | refine blk_drewN ?_ _ | refine blk_drew ?_ | refine blk_alloc ?_ _)); refine blk_put (cs := #[.int .u16 0, .int .u16 0, .int .u32 0, .int .u32 0, .int .u8 0, .int .u16 0, .int .u16 0, .int .u16 0, .slice none 0 0, .slice none 0 0]) ?_ 8 _ rfl; (with_reducible repeat (first | refine blk_drewN ?_ _ | refine blk_drew ?_ | refine blk_alloc ?_ _)); refine blk_put (cs := #[.int .u16 0, .int .u16 0, .int .u32 0, .int .u32 0, .int .u8 0, .int .u16 0, .int .u16 0, .int .u16 0, .slice none 0 0, .slice none 0 0]) ?_ 7 _ rfl; (with_reducible repeat (first | refine blk_drewN ?_ _ | refine blk_drew ?_ | refine blk_alloc ?_ _)); refine blk_put (cs := #[.int .u16 0, .int .u16 0, .int .u32 0, .int .u32 0, .int .u8 0, .int .u16 0, .int .u16 0, .int .u16 0, .slice none 0 0, .slice none 0 0]) ?_ 6 _ rfl; (with_reducible repeat (first | refine blk_drewN ?_ _ | refine blk_drew ?_ | refine blk_alloc ?_ _)); refine blk_put (cs := #[.int .u16 0, .int .u16 0, .int .u32 0, .int .u32 0, .int .u8 0, .int .u16 0, .int .u16 0, .int .u16 0, .slice none 0 0, .slice none 0 0]) ?_ 5 _ rfl; (with_reducible repeat (first | refine blk_drewN ?_ _ | refine blk_drew ?_ | refine blk_alloc ?_ _)); refine blk_put (cs := #[.int .u16 0, .int .u16 0, .int .u32 0, .int .u32 0, .int .u8 0, .int .u16 0, .int .u16 0, .int .u16 0, .slice none 0 0, .slice none 0 0]) ?_ 4 _ rfl; (with_reducible repeat (first | refine blk_drewN ?_ _ | refine blk_drew ?_ | refine blk_alloc ?_ _)); refine blk_put (cs := #[.int .u16 0, .int .u16 0, .int .u32 0, .int .u32 0, .int .u8 0, .int .u16 0, .int .u16 0, .int .u16 0, .slice none 0 0, .slice none 0 0]) ?_ 3 _ rfl; (with_reducible repeat (first | refine blk_drewN ?_ _ | refine blk_drew ?_ | refine blk_alloc ?_ _)); refine blk_put (cs := #[.int .u16 0, .int .u16 0, .int .u32 0, .int .u32 0, .int .u8 0, .int .u16 0, .int .u16 0, .int .u16 0, .slice none 0 0, .slice none 0 0]) ?_ 2 _ rfl; (with_reducible repeat (first | refine blk_drewN ?_ _ | refine blk_drew ?_ | refine blk_alloc ?_ _)); refine blk_put (cs := #[.int .u16 0, .int .u16 0, .int .u32 0, .int .u32 0, .int .u8 0, .int .u16 0, .int .u16 0, .int .u16 0, .slice none 0 0, .slice none 0 0]) ?_ 1 _ rfl; (with_reducible repeat (first | refine blk_drewN ?_ _ | refine blk_drew ?_ | refine blk_alloc ?_ _)); refine blk_put (cs := #[.int .u16 0, .int .u16 0, .int .u32 0, .int .u32 0, .int .u8 0, .int .u16 0, .int .u16 0, .int .u16 0, .slice none 0 0, .slice none 0 0]) ?_ 0 _ rfl; (with_reducible repeat (first | refine blk_drewN ?_ _ | refine blk_drew ?_ | refine blk_alloc ?_ _)); exact BK330.out) Try.underlying49 rfl (by kernel_rfl)) rfl ?_
          exact ⟨_, _, by first | rfl | (simp [errW_none, errW_some] <;> rfl) | (simp [*, errW_none, errW_some] <;> rfl), by first | exact Kd.R_nil _ _ _ _ _ | exact Kd.N_nil _ _ _ _ _ | exact Kd.V_nil _ _ _ _ _ | exact Kd.Q_nil _ _ _ _ _ | exact Kd.S_nil _ _ _ _ _, by first | exact Kd.R_nil _ _ _ _ _ | exact Kd.N_nil _ _ _ _ _ | exact Kd.V_nil _ _ _ _ _ | exact Kd.Q_nil _ _ _ _ _ | exact Kd.S_nil _ _ _ _ _, by repeat (first | (with_reducible first | exact HB.out | apply below_alloc | apply pw_below_drewN | apply below_drew1 | refine below_set ?_ GE330.out) | exact HB.out)⟩
        · rw [if_neg c9] at H
          have c9b0 : decide ((l0.length : Int) < (wrap64 (4 * (wrap64 ((rd l0 12) / 16))))) = false := decide_eq_false c9
          clear c9
          by_cases c12 : 2 ≤ (l0.length : Int)
          · rw [if_pos c12] at H
            have c12b0 := eq_true c12
            have c12b1 : decide (2 ≤ (l0.length : Int)) = true := decide_eq_true c12
            clear c12
            replace H := Option.bind_eq_some_iff.mp H
            obtain ⟨t333, A130, H⟩ := H
            replace H : (if 4 ≤ (l0.length : Int) then ((tcp_two.f ((l0.take 4).drop 2)).bind fun t335 => (if 8 ≤ (l0.length : Int) then ((tcp_four.f ((l0.take 8).drop 4)).bind fun t337 => (if 12 ≤ (l0.length : Int) then ((tcp_four.f ((l0.take 12).drop 8)).bind fun t339 => (if 13 < (l0.length : Int) then (if 16 ≤ (l0.length : Int) then ((tcp_two.f ((l0.take 16).drop 14)).bind fun t342 => (if 18 ≤ (l0.length : Int) then ((tcp_two.f ((l0.take 18).drop 16)).bind fun t344 => (if 20 ≤ (l0.length : Int) then ((tcp_two.f ((l0.take 20).drop 18)).bind fun t346 => (if 20 ≤ (wrap64 (4 * (wrap64 ((rd l0 12) / 16)))) then (if (wrap64 (4 * (wrap64 ((rd l0 12) / 16)))) ≤ (l0.length : Int) then ((slices_Clone_byte_byte.f ((l0.take ((wrap64 (4 * (wrap64 ((rd l0 12) / 16)))) : Int).toNat).drop 20)).bind fun t348 => (if 0 ≤ (wrap64 (4 * (wrap64 ((rd l0 12) / 16)))) then ((slices_Clone_byte_byte.f (l0.drop ((wrap64 (4 * (wrap64 ((rd l0 12) / 16)))) : Int).toNat)).bind fun t352 => (some (t333, t335, t337, t339, rd l0 13, t342, t344, t346, t348, t352, 0))) else (none))) else (none)) else (none))) else (none))) else (none))) else (none)) else (none))) else (none))) else (none))) else (none)) = some (r1, r2, r3, r4, r5, r6, r7, r8, r9, r10, r11) := H
            have A13 := Aside0.mk A130
            clear A130
            by_cases c14 : 4 ≤ (l0.length : Int)
            · rw [if_pos c14] at H
              have c14b0 := eq_true c14
              have c14b1 : decide (4 ≤ (l0.length : Int)) = true := decide_eq_true c14
              clear c14
              replace H := Option.bind_eq_some_iff.mp H
              obtain ⟨t335, A150, H⟩ := H
              replace H : (if 8 ≤ (l0.length : Int) then ((tcp_four.f ((l0.take 8).drop 4)).bind fun t337 => (if 12 ≤ (l0.length : Int) then ((tcp_four.f ((l0.take 12).drop 8)).bind fun t339 => (if 13 < (l0.length : Int) then (if 16 ≤ (l0.length : Int) then ((tcp_two.f ((l0.take 16).drop 14)).bind fun t342 => (if 18 ≤ (l0.length : Int) then ((tcp_two.f ((l0.take 18).drop 16)).bind fun t344 => (if 20 ≤ (l0.length : Int) then ((tcp_two.f ((l0.take 20).drop 18)).bind fun t346 => (if 20 ≤ (wrap64 (4 * (wrap64 ((rd l0 12) / 16)))) then (if (wrap64 (4 * (wrap64 ((rd l0 12) / 16)))) ≤ (l0.length : Int) then ((slices_Clone_byte_byte.f ((l0.take ((wrap64 (4 * (wrap64 ((rd l0 12) / 16)))) : Int).toNat).drop 20)).bind fun t348 => (if 0 ≤ (wrap64 (4 * (wrap64 ((rd l0 12) / 16)))) then ((slices_Clone_byte_byte.f (l0.drop ((wrap64 (4 * (wrap64 ((rd l0 12) / 16)))) : Int).toNat)).bind fun t352 => (some (t333, t335, t337, t339, rd l0 13, t342, t344, t346, t348, t352, 0))) else (none))) else (none)) else (none))) else (none))) else (none))) else (none)) else (none))) else (none))) else (none)) = some (r1, r2, r3, r4, r5, r6, r7, r8, r9, r10, r11) := H
              have A15 := Aside0.mk A150
              clear A150
              by_cases c16 : 8 ≤ (l0.length : Int)
              · rw [if_pos c16] at H
                have c16b0 := eq_true c16
                have c16b1 : decide (8 ≤ (l0.length : Int)) = true := decide_eq_true c16
                clear c16
                replace H := Option.bind_eq_some_iff.mp H
                obtain ⟨t337, A170, H⟩ := H
                replace H : (if 12 ≤ (l0.length : Int) then ((tcp_four.f ((l0.take 12).drop 8)).bind fun t339 => (if 13 < (l0.length : Int) then (if 16 ≤ (l0.length : Int) then ((tcp_two.f ((l0.take 16).drop 14)).bind fun t342 => (if 18 ≤ (l0.length : Int) then ((tcp_two.f ((l0.take 18).drop 16)).bind fun t344 => (if 20 ≤ (l0.length : Int) then ((tcp_two.f ((l0.take 20).drop 18)).bind fun t346 => (if 20 ≤ (wrap64 (4 * (wrap64 ((rd l0 12) / 16)))) then (if (wrap64 (4 * (wrap64 ((rd l0 12) / 16)))) ≤ (l0.length : Int) then ((slices_Clone_byte_byte.f ((l0.take ((wrap64 (4 * (wrap64 ((rd l0 12) / 16)))) : Int).toNat).drop 20)).bind fun t348 => (if 0 ≤ (wrap64 (4 * (wrap64 ((rd l0 12) / 16)))) then ((slices_Clone_byte_byte.f (l0.drop ((wrap64 (4 * (wrap64 ((rd l0 12) / 16)))) : Int).toNat)).bind fun t352 => (some (t333, t335, t337, t339, rd l0 13, t342, t344, t346, t348, t352, 0))) else (none))) else (none)) else (none))) else (none))) else (none))) else (none)) else (none))) else (none)) = some (r1, r2, r3, r4, r5, r6, r7, r8, r9, r10, r11) := H
                have A17 := Aside0.mk A170
                clear A170
                by_cases c18 : 12 ≤ (l0.length : Int)
                · rw [if_pos c18] at H
                  have c18b0 := eq_true c18
                  have c18b1 : decide (12 ≤ (l0.length : Int)) = true := decide_eq_true c18
                  clear c18
                  replace H := Option.bind_eq_some_iff.mp H
                  obtain ⟨t339, A190, H⟩ := H
                  replace H : (if 13 < (l0.length : Int) then (if 16 ≤ (l0.length : Int) then ((tcp_two.f ((l0.take 16).drop 14)).bind fun t342 => (if 18 ≤ (l0.length : Int) then ((tcp_two.f ((l0.take 18).drop 16)).bind fun t344 => (if 20 ≤ (l0.length : Int) then ((tcp_two.f ((l0.take 20).drop 18)).bind fun t346 => (if 20 ≤ (wrap64 (4 * (wrap64 ((rd l0 12) / 16)))) then (if (wrap64 (4 * (wrap64 ((rd l0 12) / 16)))) ≤ (l0.length : Int) then ((slices_Clone_byte_byte.f ((l0.take ((wrap64 (4 * (wrap64 ((rd l0 12) / 16)))) : Int).toNat).drop 20)).bind fun t348 => (if 0 ≤ (wrap64 (4 * (wrap64 ((rd l0 12) / 16)))) then ((slices_Clone_byte_byte.f (l0.drop ((wrap64 (4 * (wrap64 ((rd l0 12) / 16)))) : Int).toNat)).bind fun t352 => (some (t333, t335, t337, t339, rd l0 13, t342, t344, t346, t348, t352, 0))) else (none))) else (none)) else (none))) else (none))) else (none))) else (none)) else (none)) = some (r1, r2, r3, r4, r5, r6, r7, r8, r9, r10, r11) := H
                  have A19 := Aside0.mk A190
                  clear A190
                  by_cases c20 : 13 < (l0.length : Int)
                  · rw [if_pos c20] at H
                    have c20b0 : decide (13 < (l0.length : Int)) = true := decide_eq_true c20
                    have c20b1 : decide (13 < l0.length) = true := decide_eq_true (by omega)
                    clear c20
                    by_cases c21 : 16 ≤ (l0.length : Int)
                    · rw [if_pos c21] at H
                      have c21b0 := eq_true c21
                      have c21b1 : decide (16 ≤ (l0.length : Int)) = true := decide_eq_true c21
                      clear c21
                      replace H := Option.bind_eq_some_iff.mp H
                      obtain ⟨t342, A220, H⟩ := H
                      replace H : (if 18 ≤ (l0.length : Int) then ((tcp_two.f ((l0.take 18).drop 16)).bind fun t344 => (if 20 ≤ (l0.length : Int) then ((tcp_two.f ((l0.take 20).drop 18)).bind fun t346 => (if 20 ≤ (wrap64 (4 * (wrap64 ((rd l0 12) / 16)))) then (if (wrap64 (4 * (wrap64 ((rd l0 12) / 16)))) ≤ (l0.length : Int) then ((slices_Clone_byte_byte.f ((l0.take ((wrap64 (4 * (wrap64 ((rd l0 12) / 16)))) : Int).toNat).drop 20)).bind fun t348 => (if 0 ≤ (wrap64 (4 * (wrap64 ((rd l0 12) / 16)))) then ((slices_Clone_byte_byte.f (l0.drop ((wrap64 (4 * (wrap64 ((rd l0 12) / 16)))) : Int).toNat)).bind fun t352 => (some (t333, t335, t337, t339, rd l0 13, t342, t344, t346, t348, t352, 0))) else (none))) else (none)) else (none))) else (none))) else (none)) = some (r1, r2, r3, r4, r5, r6, r7, r8, r9, r10, r11) := H
                      have A22 := Aside0.mk A220
                      clear A220
                      by_cases c23 : 18 ≤ (l0.length : Int)
                      · rw [if_pos c23] at H
                        have c23b0 := eq_true c23
                        have c23b1 : decide (18 ≤ (l0.length : Int)) = true := decide_eq_true c23
                        clear c23
                        replace H := Option.bind_eq_some_iff.mp H
                        obtain ⟨t344, A240, H⟩ := H
                        replace H : (if 20 ≤ (l0.length : Int) then ((tcp_two.f ((l0.take 20).drop 18)).bind fun t346 => (if 20 ≤ (wrap64 (4 * (wrap64 ((rd l0 12) / 16)))) then (if (wrap64 (4 * (wrap64 ((rd l0 12) / 16)))) ≤ (l0.length : Int) then ((slices_Clone_byte_byte.f ((l0.take ((wrap64 (4 * (wrap64 ((rd l0 12) / 16)))) : Int).toNat).drop 20)).bind fun t348 => (if 0 ≤ (wrap64 (4 * (wrap64 ((rd l0 12) / 16)))) then ((slices_Clone_byte_byte.f (l0.drop ((wrap64 (4 * (wrap64 ((rd l0 12) / 16)))) : Int).toNat)).bind fun t352 => (some (t333, t335, t337, t339, rd l0 13, t342, t344, t346, t348, t352, 0))) else (none))) else (none)) else (none))) else (none)) = some (r1, r2, r3, r4, r5, r6, r7, r8, r9, r10, r11) := H
                        have A24 := Aside0.mk A240
                        clear A240
                        by_cases c25 : 20 ≤ (l0.length : Int)
                        · rw [if_pos c25] at H
                          have c25b0 := eq_true c25
                          have c25b1 : decide (20 ≤ (l0.length : Int)) = true := decide_eq_true c25
                          clear c25
                          replace H := Option.bind_eq_some_iff.mp H
                          obtain ⟨t346, A260, H⟩ := H
                          replace H : (if 20 ≤ (wrap64 (4 * (wrap64 ((rd l0 12) / 16)))) then (if (wrap64 (4 * (wrap64 ((rd l0 12) / 16)))) ≤ (l0.length : Int) then ((slices_Clone_byte_byte.f ((l0.take ((wrap64 (4 * (wrap64 ((rd l0 12) / 16)))) : Int).toNat).drop 20)).bind fun t348 => (if 0 ≤ (wrap64 (4 * (wrap64 ((rd l0 12) / 16)))) then ((slices_Clone_byte_byte.f (l0.drop ((wrap64 (4 * (wrap64 ((rd l0 12) / 16)))) : Int).toNat)).bind fun t352 => (some (t333, t335, t337, t339, rd l0 13, t342, t344, t346, t348, t352, 0))) else (none))) else (none)) else (none)) = some (r1, r2, r3, r4, r5, r6, r7, r8, r9, r10, r11) := H
                          have A26 := Aside0.mk A260
                          clear A260
                          by_cases c27 : 20 ≤ (wrap64 (4 * (wrap64 ((rd l0 12) / 16))))
                          · rw [if_pos c27] at H
                            have c27b0 := eq_true c27
                            have c27b1 : decide (20 ≤ (wrap64 (4 * (wrap64 ((rd l0 12) / 16))))) = true := decide_eq_true c27
                            clear c27
                            by_cases c28 : (wrap64 (4 * (wrap64 ((rd l0 12) / 16)))) ≤ (l0.length : Int)
                            · rw [if_pos c28] at H
                              have c28b0 := eq_true c28
                              have c28b1 : decide ((wrap64 (4 * (wrap64 ((rd l0 12) / 16)))) ≤ (l0.length : Int)) = true := decide_eq_true c28
                              clear c28
                              replace H := Option.bind_eq_some_iff.mp H
                              obtain ⟨t348, A290, H⟩ := H
                              replace H : (if 0 ≤ (wrap64 (4 * (wrap64 ((rd l0 12) / 16)))) then ((slices_Clone_byte_byte.f (l0.drop ((wrap64 (4 * (wrap64 ((rd l0 12) / 16)))) : Int).toNat)).bind fun t352 => (some (t333, t335, t337, t339, rd l0 13, t342, t344, t346, t348, t352, 0))) else (none)) = some (r1, r2, r3, r4, r5, r6, r7, r8, r9, r10, r11) := H
                              have A29 := Aside0.mk A290
                              clear A290
                              obtain ⟨ji30, hji30⟩ : ∃ j_ : Int, (wrap64 (4 * (wrap64 ((rd l0 12) / 16)))) = j_ := ⟨_, rfl⟩
                              replace H : (if 0 ≤ (ji30) then ((slices_Clone_byte_byte.f (l0.drop ((ji30) : Int).toNat)).bind fun t352 => (some (t333, t335, t337, t339, rd l0 13, t342, t344, t346, t348, t352, 0))) else (none)) = some (r1, r2, r3, r4, r5, r6, r7, r8, r9, r10, r11) := by first | (rw [hji30] at H; exact H) | (simp only [hji30] at H ⊢; exact H)
                              (try rw [hji30] at c6b0)
                              (try rw [hji30] at c9b0)
                              (try rw [hji30] at c27b0)
                              (try rw [hji30] at c27b1)
                              (try rw [hji30] at c28b0)
                              (try rw [hji30] at c28b1)
                              (try rw [hji30] at A13)
                              (try rw [hji30] at A15)
                              (try rw [hji30] at A17)
                              (try rw [hji30] at A19)
                              (try rw [hji30] at A22)
                              (try rw [hji30] at A24)
                              (try rw [hji30] at A26)
                              (try rw [hji30] at A29)
                              have hji30w : (IntKind.i64.wrap (4 * (wrap64 ((rd l0 12) / 16)))) = ji30 := (i64_w _).trans hji30
                              by_cases c31 : 0 ≤ (ji30)
                              · rw [if_pos c31] at H
                                have c31b0 := eq_true c31
                                have c31b1 : decide (0 ≤ (ji30)) = true := decide_eq_true c31
                                clear c31
                                have c32b0 := eq_true (of_decide_eq_true (by first | (with_reducible assumption) | assumption) : (ji30) ≤ (l0.length : Int))
                                replace H := Option.bind_eq_some_iff.mp H
                                obtain ⟨t352, A330, H⟩ := H
                                replace H : (some (t333, t335, t337, t339, rd l0 13, t342, t344, t346, t348, t352, 0)) = some (r1, r2, r3, r4, r5, r6, r7, r8, r9, r10, r11) := H
                                have A33 := Aside0.mk A330
                                clear A330
                                simp only [Option.some.injEq, Prod.mk.injEq] at H
                                obtain ⟨rfl, rfl, rfl, rfl, rfl, rfl, rfl, rfl, rfl, rfl, rfl⟩ := H
                                go_enter Try.func26, Try.ntmps26
                                try go_wp2_with (first | ((with_reducible refine gate_dst (N := 2) rfl ?_); refine box_event ?hg (N := 2) ?hd (cs := #[.int .u16 0, .int .u16 0, .int .u32 0, .int .u32 0, .int .u8 0, .int .u16 0, .int .u16 0, .int .u16 0, .slice none 0 0, .slice none 0 0]) (t := 49) ?hr ?_; (case hd => rfl); (case hg => rfl); (case hr => first | (go_simp; done) | (go_simp; rfl)); intro gb330 hg w34 hbox hb; have n0_ := Aside0.mk (below_step (by repeat (first | (with_reducible first | exact HB.out | apply below_alloc | apply pw_below_drewN | apply below_drew1) | exact HB.out)) hb); have n1_ := Aside0.mk (hbox); have n2_ := Aside0.mk ((by rw [hg]; exact (below_size (by repeat (first | (with_reducible first | exact HB.out | apply below_alloc | apply pw_below_drewN | apply below_drew1) | exact HB.out))) : w.heap.size ≤ gb330)); have n3_ := Aside0.mk ((by rw [hg]; exact (below_size (by repeat (first | (with_reducible first | exact HB.out | apply below_alloc | apply pw_below_drewN | apply below_drew1) | exact HB.out))) : w.heap.size ≤ gb330)); clear HB; have HB := n0_; have BK330 := n1_; have GW330 := n2_; have GE330 := n3_; clear n0_ n1_ n2_ n3_; clear hb hbox hg; have p331 : 0 ≤ (12 : Int) := (by omega); have q331 : 12 < (l0.length : Int) := of_decide_eq_true (by first | (with_reducible assumption) | assumption); obtain ⟨ad331, e331, hx331_0⟩ := Kd.at_int HR0.out 12 p331 q331; cases e331; (try simp only [show (12 : Int).toNat = 12 from rfl, Nat.reduceMul, Nat.reduceEqDiff, Go.Addr.add, ↓reduceIte] at hx331_0); have qi331 : (12 < l0.length) = True := eq_true (by omega); (try rw [show ((12 : Int)).toNat = 12 from rfl] at hx331_0); replace hx331_0 := (HB.out.cell (World.block_lt_of_cell? w _ hx331_0)).trans hx331_0; replace p331 := eq_true p331; replace q331 := eq_true q331))
                                have n0_ := Aside0.mk (blk_drew BK330.out)
                                have n1_ := Aside0.mk (below_drew1 HB.out)
                                clear BK330
                                clear HB
                                have BK330 := n0_
                                have HB := n1_
                                clear n0_ n1_
                                obtain ⟨i036, hi036, _, hsz36, _⟩ := info_parts info5
                                obtain ⟨A36, hcut36, hA36, hC36⟩ := print_mid3_of (P := Try.prog) (Value.int .u8) 0 22 5 .i64 .i64 .i64 Try.underlying22 hi036 hsz36 (some ad331) c0 l0 0 2 (by omega) (by first | omega | exact of_decide_eq_true (by first | (with_reducible assumption) | assumption)) (of_decide_eq_true (by first | (with_reducible assumption) | assumption)) HC0.out
                                have HR332 := Aside0.mk (Kd.C_of_reads (h1 := fun _ => rfl) (hA36 _ (Kd.reads_of_C HR0.out)))
                                have HC332 := Aside0.mk hC36
                                clear hA36 hC36 hi036 hsz36
                                have hmn36 : min 2 l0.length = 2 := (by have h_ : (2 : Int) ≤ (l0.length : Int) := of_decide_eq_true (by first | (with_reducible assumption) | assumption); omega)
                                obtain ⟨i037, hi037, _, hsz37, _⟩ := info_parts info5
                                obtain ⟨A37, hcut37, hA37, hC37⟩ := print_mid3_of (P := Try.prog) (Value.int .u8) 0 22 5 .i64 .i64 .i64 Try.underlying22 hi037 hsz37 (some ad331) c0 l0 2 4 (by omega) (by first | omega | exact of_decide_eq_true (by first | (with_reducible assumption) | assumption)) (of_decide_eq_true (by first | (with_reducible assumption) | assumption)) HC0.out
                                have HR334 := Aside0.mk (Kd.C_of_reads (h1 := fun _ => rfl) (hA37 _ (Kd.reads_of_C HR0.out)))
                                have HC334 := Aside0.mk hC37
                                clear hA37 hC37 hi037 hsz37
                                have hmn37 : min 4 l0.length - 2 = 2 := (by have h_ : (4 : Int) ≤ (l0.length : Int) := of_decide_eq_true (by first | (with_reducible assumption) | assumption); omega)
                                obtain ⟨i038, hi038, _, hsz38, _⟩ := info_parts info5
                                obtain ⟨A38, hcut38, hA38, hC38⟩ := print_mid3_of (P := Try.prog) (Value.int .u8) 0 22 5 .i64 .i64 .i64 Try.underlying22 hi038 hsz38 (some ad331) c0 l0 4 8 (by omega) (by first | omega | exact of_decide_eq_true (by first | (with_reducible assumption) | assumption)) (of_decide_eq_true (by first | (with_reducible assumption) | assumption)) HC0.out
                                have HR336 := Aside0.mk (Kd.C_of_reads (h1 := fun _ => rfl) (hA38 _ (Kd.reads_of_C HR0.out)))
                                have HC336 := Aside0.mk hC38
                                clear hA38 hC38 hi038 hsz38
                                have hmn38 : min 8 l0.length - 4 = 4 := (by have h_ : (8 : Int) ≤ (l0.length : Int) := of_decide_eq_true (by first | (with_reducible assumption) | assumption); omega)
                                obtain ⟨i039, hi039, _, hsz39, _⟩ := info_parts info5
                                obtain ⟨A39, hcut39, hA39, hC39⟩ := print_mid3_of (P := Try.prog) (Value.int .u8) 0 22 5 .i64 .i64 .i64 Try.underlying22 hi039 hsz39 (some ad331) c0 l0 8 12 (by omega) (by first | omega | exact of_decide_eq_true (by first | (with_reducible assumption) | assumption)) (of_decide_eq_true (by first | (with_reducible assumption) | assumption)) HC0.out
                                have HR338 := Aside0.mk (Kd.C_of_reads (h1 := fun _ => rfl) (hA39 _ (Kd.reads_of_C HR0.out)))
                                have HC338 := Aside0.mk hC39
                                clear hA39 hC39 hi039 hsz39
                                have hmn39 : min 12 l0.length - 8 = 4 := (by have h_ : (12 : Int) ≤ (l0.length : Int) := of_decide_eq_true (by first | (with_reducible assumption) | assumption); omega)
                                have p340 : 0 ≤ (13 : Int) := (by omega)
                                have q340 : 13 < (l0.length : Int) := of_decide_eq_true (by first | (with_reducible assumption) | assumption)
                                obtain ⟨ad340, e340, hx340_0⟩ := Kd.at_int HR0.out 13 p340 q340
                                have hw340_0 := hx340_0
                                (try rw [show ((13 : Int)).toNat = 13 from rfl] at hw340_0)
                                (try rw [show 13 * 1 = 13 from rfl] at hw340_0)
                                (try simp only [Nat.reduceMul, Nat.reduceEqDiff, Go.Addr.add, ↓reduceIte] at hw340_0)
                                obtain rfl : ad331 = ad340 := (by injection e340)
                                (try simp only [show (13 : Int).toNat = 13 from rfl, Nat.reduceMul, Nat.reduceEqDiff, Go.Addr.add, ↓reduceIte] at hx340_0)
                                have qi340 : (13 < l0.length) = True := eq_true (by omega)
                                (try rw [show ((13 : Int)).toNat = 13 from rfl] at hx340_0)
                                replace hx340_0 := (HB.out.cell (World.block_lt_of_cell? w _ hx340_0)).trans hx340_0
                                replace p340 := eq_true p340
                                replace q340 := eq_true q340
                                obtain ⟨i040, hi040, _, hsz40, _⟩ := info_parts info5
                                obtain ⟨A40, hcut40, hA40, hC40⟩ := print_mid3_of (P := Try.prog) (Value.int .u8) 0 22 5 .i64 .i64 .i64 Try.underlying22 hi040 hsz40 (some ad331) c0 l0 14 16 (by omega) (by first | omega | exact of_decide_eq_true (by first | (with_reducible assumption) | assumption)) (of_decide_eq_true (by first | (with_reducible assumption) | assumption)) HC0.out
                                have HR341 := Aside0.mk (Kd.C_of_reads (h1 := fun _ => rfl) (hA40 _ (Kd.reads_of_C HR0.out)))
                                have HC341 := Aside0.mk hC40
                                clear hA40 hC40 hi040 hsz40
                                have hmn40 : min 16 l0.length - 14 = 2 := (by have h_ : (16 : Int) ≤ (l0.length : Int) := of_decide_eq_true (by first | (with_reducible assumption) | assumption); omega)
                                obtain ⟨i041, hi041, _, hsz41, _⟩ := info_parts info5
                                obtain ⟨A41, hcut41, hA41, hC41⟩ := print_mid3_of (P := Try.prog) (Value.int .u8) 0 22 5 .i64 .i64 .i64 Try.underlying22 hi041 hsz41 (some ad331) c0 l0 16 18 (by omega) (by first | omega | exact of_decide_eq_true (by first | (with_reducible assumption) | assumption)) (of_decide_eq_true (by first | (with_reducible assumption) | assumption)) HC0.out
                                have HR343 := Aside0.mk (Kd.C_of_reads (h1 := fun _ => rfl) (hA41 _ (Kd.reads_of_C HR0.out)))
                                have HC343 := Aside0.mk hC41
                                clear hA41 hC41 hi041 hsz41
                                have hmn41 : min 18 l0.length - 16 = 2 := (by have h_ : (18 : Int) ≤ (l0.length : Int) := of_decide_eq_true (by first | (with_reducible assumption) | assumption); omega)
                                obtain ⟨i042, hi042, _, hsz42, _⟩ := info_parts info5
                                obtain ⟨A42, hcut42, hA42, hC42⟩ := print_mid3_of (P := Try.prog) (Value.int .u8) 0 22 5 .i64 .i64 .i64 Try.underlying22 hi042 hsz42 (some ad331) c0 l0 18 20 (by omega) (by first | omega | exact of_decide_eq_true (by first | (with_reducible assumption) | assumption)) (of_decide_eq_true (by first | (with_reducible assumption) | assumption)) HC0.out
                                have HR345 := Aside0.mk (Kd.C_of_reads (h1 := fun _ => rfl) (hA42 _ (Kd.reads_of_C HR0.out)))
                                have HC345 := Aside0.mk hC42
                                clear hA42 hC42 hi042 hsz42
                                have hmn42 : min 20 l0.length - 18 = 2 := (by have h_ : (20 : Int) ≤ (l0.length : Int) := of_decide_eq_true (by first | (with_reducible assumption) | assumption); omega)
                                obtain ⟨i043, hi043, _, hsz43, _⟩ := info_parts info5
                                obtain ⟨A43, hcut43, hA43, hC43⟩ := print_mid3_of (P := Try.prog) (Value.int .u8) 0 22 5 .i64 .i64 .i64 Try.underlying22 hi043 hsz43 (some ad331) c0 l0 20 (ji30) (by omega) (by first | omega | exact of_decide_eq_true (by first | (with_reducible assumption) | assumption)) (of_decide_eq_true (by first | (with_reducible assumption) | assumption)) HC0.out
                                have HR347 := Aside0.mk (Kd.C_of_reads (h1 := fun _ => rfl) (hA43 _ (Kd.reads_of_C HR0.out)))
                                have HC347 := Aside0.mk hC43
                                clear hA43 hC43 hi043 hsz43
                                obtain ⟨i044, hi044, _, hsz44, _⟩ := info_parts info5
                                obtain ⟨A44, hcut44, hA44, hC44⟩ := print_drop_of (P := Try.prog) (Value.int .u8) 0 22 5 .i64 Try.underlying22 hi044 hsz44 (some ad331) c0 l0 (ji30) (of_decide_eq_true (by first | (with_reducible assumption) | assumption)) (of_decide_eq_true (by first | (with_reducible assumption) | assumption)) HC0.out
                                have HR351 := Aside0.mk (Kd.C_of_reads (h1 := fun _ => rfl) (hA44 _ (Kd.reads_of_C HR0.out)))
                                have HC351 := Aside0.mk hC44
                                clear hA44 hC44 hi044 hsz44
                                refine start_ (n := 36) (S := fun w' => w'.cell? ⟨ad331.block, ad331.off + 13, none⟩ = some (.int .u8 (rd l0 13))) (ds := []) #[false, false, false, false, false, false, false, false, false, false, false, false, false, false, false, false, false, false, false, false, false, false, false, false, false, false, false, false, false, false, false, false, false, false, false, false] (by kernel_rfl) rfl rfl (((HB.out.cell (World.block_lt_of_cell? w _ hw340_0)).trans hw340_0)) (fun hHeld => ?_); refine with_tabW tcp_Parse.tab8 tcp_Parse.bits8 (fun HT_ HW_ => ?_)
                                generalize w34.drew = w35 at BK330 HB HR332 HR334 HR336 HR338 HR341 HR343 HR345 HR347 HR351 hx340_0 hHeld ⊢
                                refine pure_ (i := 0) (N := some 25) (v := ?_) (a' := ?_) #[true, false, false, false, false, false, false, false, false, false, false, false, false, false, false, false, false, false, false, false, false, false, false, false, false, false, false, false, false, false, false, false, false, false, false, false] rfl rfl (any_of HT_.out (by kernel_rfl)) (fun _ _ _ h => h) (Or.inl ⟨by rfl, ?_⟩) ?_ ?_
                                rotate_left
                                · intro w'
                                  go_simp
                                  with_reducible rfl
                                rotate_left
                                · simp only [Act.put, List.setIfInBounds_toArray, List.set_cons_zero, List.set_cons_succ, i64_w, i32_w]
                                  rfl
                                refine pure_ (i := 1) (N := some 26) (v := ?_) (a' := ?_) #[true, true, false, false, false, false, false, false, false, false, false, false, false, false, false, false, false, false, false, false, false, false, false, false, false, false, false, false, false, false, false, false, false, false, false, false] rfl rfl (any_of HT_.out (by kernel_rfl)) (fun _ _ _ h => h) (Or.inl ⟨by rfl, ?_⟩) ?_ ?_
                                rotate_left
                                · intro w'
                                  go_simp
                                  with_reducible rfl
                                rotate_left
                                · simp only [Act.put, List.setIfInBounds_toArray, List.set_cons_zero, List.set_cons_succ, i64_w, i32_w]
                                  rfl
                                refine pure_ (i := 3) (N := some 28) (v := ?_) (a' := ?_) #[true, true, false, true, false, false, false, false, false, false, false, false, false, false, false, false, false, false, false, false, false, false, false, false, false, false, false, false, false, false, false, false, false, false, false, false] rfl rfl (any_of HT_.out (by kernel_rfl)) (fun _ _ _ h => h) (Or.inl ⟨by rfl, ?_⟩) ?_ ?_
                                rotate_left
                                · intro w'
                                  go_simp
                                  with_reducible rfl
                                rotate_left
                                · simp only [Act.put, List.setIfInBounds_toArray, List.set_cons_zero, List.set_cons_succ, i64_w, i32_w]
                                  rfl
                                refine pure_ (i := 4) (N := some 29) (v := ?_) (a' := ?_) #[true, true, false, true, true, false, false, false, false, false, false, false, false, false, false, false, false, false, false, false, false, false, false, false, false, false, false, false, false, false, false, false, false, false, false, false] rfl rfl (any_of HT_.out (by kernel_rfl)) (fun _ _ _ h => h) (Or.inl ⟨by rfl, ?_⟩) ?_ ?_
                                rotate_left
                                · intro w'
                                  go_simp
                                  with_reducible rfl
                                rotate_left
                                · simp only [Act.put, List.setIfInBounds_toArray, List.set_cons_zero, List.set_cons_succ, i64_w, i32_w]
                                  rfl
                                refine pure_ (i := 6) (N := some 31) (v := ?_) (a' := ?_) #[true, true, false, true, true, false, true, false, false, false, false, false, false, false, false, false, false, false, false, false, false, false, false, false, false, false, false, false, false, false, false, false, false, false, false, false] rfl rfl (any_of HT_.out (by kernel_rfl)) (fun _ _ _ h => h) (Or.inl ⟨by rfl, ?_⟩) ?_ ?_
                                rotate_left
                                · intro w'
                                  go_simp
                                  with_reducible rfl
                                rotate_left
                                · simp only [Act.put, List.setIfInBounds_toArray, List.set_cons_zero, List.set_cons_succ, i64_w, i32_w]
                                  rfl
                                refine pure_ (i := 7) (N := some 32) (v := ?_) (a' := ?_) #[true, true, false, true, true, false, true, true, false, false, false, false, false, false, false, false, false, false, false, false, false, false, false, false, false, false, false, false, false, false, false, false, false, false, false, false] rfl rfl (any_of HT_.out (by kernel_rfl)) (fun _ _ _ h => h) (Or.inl ⟨by rfl, ?_⟩) ?_ ?_
                                rotate_left
                                · intro w'
                                  go_simp
                                  with_reducible rfl
                                rotate_left
                                · simp only [Act.put, List.setIfInBounds_toArray, List.set_cons_zero, List.set_cons_succ, i64_w, i32_w]
                                  rfl
                                refine pure_ (i := 9) (N := some 34) (v := ?_) (a' := ?_) #[true, true, false, true, true, false, true, true, false, true, false, false, false, false, false, false, false, false, false, false, false, false, false, false, false, false, false, false, false, false, false, false, false, false, false, false] rfl rfl (any_of HT_.out (by kernel_rfl)) (fun _ _ _ h => h) (Or.inl ⟨by rfl, ?_⟩) ?_ ?_
                                rotate_left
                                · intro w'
                                  go_simp
                                  with_reducible rfl
                                rotate_left
                                · simp only [Act.put, List.setIfInBounds_toArray, List.set_cons_zero, List.set_cons_succ, i64_w, i32_w]
                                  rfl
                                refine pure_ (i := 10) (N := some 35) (v := ?_) (a' := ?_) #[true, true, false, true, true, false, true, true, false, true, true, false, false, false, false, false, false, false, false, false, false, false, false, false, false, false, false, false, false, false, false, false, false, false, false, false] rfl rfl (any_of HT_.out (by kernel_rfl)) (fun _ _ _ h => h) (Or.inl ⟨by rfl, ?_⟩) ?_ ?_
                                rotate_left
                                · intro w'
                                  go_simp
                                  with_reducible rfl
                                rotate_left
                                · simp only [Act.put, List.setIfInBounds_toArray, List.set_cons_zero, List.set_cons_succ, i64_w, i32_w]
                                  rfl
                                refine pure_ (i := 12) (N := some 37) (v := ?_) (a' := ?_) #[true, true, false, true, true, false, true, true, false, true, true, false, true, false, false, false, false, false, false, false, false, false, false, false, false, false, false, false, false, false, false, false, false, false, false, false] rfl rfl (any_of HT_.out (by kernel_rfl)) (fun _ _ _ h => h) (Or.inl ⟨by rfl, ?_⟩) ?_ ?_
                                rotate_left
                                · intro w'
                                  go_simp
                                  with_reducible rfl
                                rotate_left
                                · simp only [Act.put, List.setIfInBounds_toArray, List.set_cons_zero, List.set_cons_succ, i64_w, i32_w]
                                  rfl
                                refine pure_ (i := 13) (N := some 38) (v := ?_) (a' := ?_) #[true, true, false, true, true, false, true, true, false, true, true, false, true, true, false, false, false, false, false, false, false, false, false, false, false, false, false, false, false, false, false, false, false, false, false, false] rfl rfl (any_of HT_.out (by kernel_rfl)) (fun _ _ _ h => h) (Or.inl ⟨by rfl, ?_⟩) ?_ ?_
                                rotate_left
                                · intro w'
                                  go_simp
                                  with_reducible rfl
                                rotate_left
                                · simp only [Act.put, List.setIfInBounds_toArray, List.set_cons_zero, List.set_cons_succ, i64_w, i32_w]
                                  rfl
                                refine pure_ (i := 15) (N := some 40) (v := ?_) (a' := ?_) #[true, true, false, true, true, false, true, true, false, true, true, false, true, true, false, true, false, false, false, false, false, false, false, false, false, false, false, false, false, false, false, false, false, false, false, false] rfl rfl (any_of HT_.out (by kernel_rfl)) (fun _ _ _ h => h) (Or.inl ⟨by rfl, ?_⟩) ?_ ?_
                                rotate_left
                                · intro w'
                                  go_simp
                                  with_reducible rfl
                                rotate_left
                                · simp only [Act.put, List.setIfInBounds_toArray, List.set_cons_zero, List.set_cons_succ, i64_w, i32_w]
                                  rfl
                                refine pure_ (i := 16) (N := some 41) (v := ?_) (a' := ?_) #[true, true, false, true, true, false, true, true, false, true, true, false, true, true, false, true, true, false, false, false, false, false, false, false, false, false, false, false, false, false, false, false, false, false, false, false] rfl rfl (any_of HT_.out (by kernel_rfl)) (fun _ _ _ h => h) (Or.inl ⟨by rfl, ?_⟩) ?_ ?_
                                rotate_left
                                · intro w'
                                  go_simp
                                  with_reducible rfl
                                rotate_left
                                · simp only [Act.put, List.setIfInBounds_toArray, List.set_cons_zero, List.set_cons_succ, i64_w, i32_w]
                                  rfl
                                refine pure_ (i := 18) (N := some 43) (v := ?_) (a' := ?_) #[true, true, false, true, true, false, true, true, false, true, true, false, true, true, false, true, true, false, true, false, false, false, false, false, false, false, false, false, false, false, false, false, false, false, false, false] rfl rfl (any_of HT_.out (by kernel_rfl)) (fun _ _ _ h => h) (Or.inl ⟨by rfl, ?_⟩) ?_ ?_
                                rotate_left
                                · intro w'
                                  go_simp
                                  with_reducible rfl
                                rotate_left
                                · simp only [Act.put, List.setIfInBounds_toArray, List.set_cons_zero, List.set_cons_succ, i64_w, i32_w]
                                  rfl
                                refine pure_ (i := 19) (N := some 44) (v := ?_) (a' := ?_) #[true, true, false, true, true, false, true, true, false, true, true, false, true, true, false, true, true, false, true, true, false, false, false, false, false, false, false, false, false, false, false, false, false, false, false, false] rfl rfl (any_of HT_.out (by kernel_rfl)) (fun _ _ _ h => h) (Or.inl ⟨by rfl, ?_⟩) ?_ ?_
                                rotate_left
                                · intro w'
                                  go_simp
                                  with_reducible rfl
                                rotate_left
                                · simp only [Act.put, List.setIfInBounds_toArray, List.set_cons_zero, List.set_cons_succ, i64_w, i32_w]
                                  rfl
                                refine pure_ (i := 21) (N := some 46) (v := ?_) (a' := ?_) #[true, true, false, true, true, false, true, true, false, true, true, false, true, true, false, true, true, false, true, true, false, true, false, false, false, false, false, false, false, false, false, false, false, false, false, false] rfl rfl (any_of HT_.out (by kernel_rfl)) (fun _ _ _ h => h) (Or.inl ⟨by rfl, ?_⟩) ?_ ?_
                                rotate_left
                                · intro w'
                                  go_simp
                                  with_reducible rfl
                                rotate_left
                                · simp only [Act.put, List.setIfInBounds_toArray, List.set_cons_zero, List.set_cons_succ, i64_w, i32_w]
                                  rfl
                                refine pure_ (i := 22) (N := some 47) (v := ?_) (a' := ?_) #[true, true, false, true, true, false, true, true, false, true, true, false, true, true, false, true, true, false, true, true, false, true, true, false, false, false, false, false, false, false, false, false, false, false, false, false] rfl rfl (any_of HT_.out (by kernel_rfl)) (fun _ _ _ h => h) (Or.inl ⟨by rfl, ?_⟩) ?_ ?_
                                rotate_left
                                · intro w'
                                  go_simp
                                  with_reducible rfl
                                rotate_left
                                · simp only [Act.put, List.setIfInBounds_toArray, List.set_cons_zero, List.set_cons_succ, i64_w, i32_w]
                                  rfl
                                refine pure_ (i := 24) (N := some 49) (v := ?_) (a' := ?_) #[true, true, false, true, true, false, true, true, false, true, true, false, true, true, false, true, true, false, true, true, false, true, true, false, true, false, false, false, false, false, false, false, false, false, false, false] rfl rfl (any_of HT_.out (by kernel_rfl)) (fun _ _ _ h => h) (Or.inl ⟨by rfl, ?_⟩) ?_ ?_
                                rotate_left
                                · intro w'
                                  go_simp
                                  with_reducible rfl
                                rotate_left
                                · simp only [Act.put, List.setIfInBounds_toArray, List.set_cons_zero, List.set_cons_succ, i64_w, i32_w]
                                  rfl
                                refine pure_ (i := 25) (N := some 50) (v := ?_) (a' := ?_) #[true, true, false, true, true, false, true, true, false, true, true, false, true, true, false, true, true, false, true, true, false, true, true, false, true, true, false, false, false, false, false, false, false, false, false, false] rfl rfl (any_of HT_.out (by kernel_rfl)) (fun _ _ _ h => h) (Or.inl ⟨by rfl, ?_⟩) ?_ ?_
                                rotate_left
                                · intro w'
                                  go_simp
                                  with_reducible rfl
                                rotate_left
                                · simp only [Act.put, List.setIfInBounds_toArray, List.set_cons_zero, List.set_cons_succ, i64_w, i32_w]
                                  rfl
                                refine pure_ (i := 26) (N := some 51) (v := ?_) (a' := ?_) #[true, true, false, true, true, false, true, true, false, true, true, false, true, true, false, true, true, false, true, true, false, true, true, false, true, true, true, false, false, false, false, false, false, false, false, false] rfl rfl (any_of HT_.out (by kernel_rfl)) (fun _ _ _ h => h) (Or.inl ⟨by rfl, ?_⟩) ?_ ?_
                                rotate_left
                                · intro w'
                                  go_simp
                                  with_reducible rfl
                                rotate_left
                                · simp only [Act.put, List.setIfInBounds_toArray, List.set_cons_zero, List.set_cons_succ, i64_w, i32_w]
                                  rfl
                                refine pure_ (i := 27) (N := some 52) (v := ?_) (a' := ?_) #[true, true, false, true, true, false, true, true, false, true, true, false, true, true, false, true, true, false, true, true, false, true, true, false, true, true, true, true, false, false, false, false, false, false, false, false] rfl rfl (any_of HT_.out (by kernel_rfl)) (fun _ _ _ h => h) (Or.inl ⟨by rfl, ?_⟩) ?_ ?_
                                rotate_left
                                · intro w'
                                  go_simp
                                  with_reducible rfl
                                rotate_left
                                · simp only [Act.put, List.setIfInBounds_toArray, List.set_cons_zero, List.set_cons_succ, i64_w, i32_w]
                                  rfl
                                refine pure_ (i := 29) (N := some 54) (v := ?_) (a' := ?_) #[true, true, false, true, true, false, true, true, false, true, true, false, true, true, false, true, true, false, true, true, false, true, true, false, true, true, true, true, false, true, false, false, false, false, false, false] rfl rfl (any_of HT_.out (by kernel_rfl)) (fun _ _ _ h => h) (Or.inl ⟨by rfl, ?_⟩) ?_ ?_
                                rotate_left
                                · intro w'
                                  go_simp
                                  with_reducible rfl
                                rotate_left
                                · simp only [Act.put, List.setIfInBounds_toArray, List.set_cons_zero, List.set_cons_succ, i64_w, i32_w]
                                  rfl
                                refine pure_ (i := 30) (N := some 55) (v := ?_) (a' := ?_) #[true, true, false, true, true, false, true, true, false, true, true, false, true, true, false, true, true, false, true, true, false, true, true, false, true, true, true, true, false, true, true, false, false, false, false, false] rfl rfl (any_of HT_.out (by kernel_rfl)) (fun _ _ _ h => h) (Or.inl ⟨by rfl, ?_⟩) ?_ ?_
                                rotate_left
                                · intro w'
                                  go_simp
                                  with_reducible rfl
                                rotate_left
                                · simp only [Act.put, List.setIfInBounds_toArray, List.set_cons_zero, List.set_cons_succ, i64_w, i32_w]
                                  rfl
                                refine pure_ (i := 31) (N := some 56) (v := ?_) (a' := ?_) #[true, true, false, true, true, false, true, true, false, true, true, false, true, true, false, true, true, false, true, true, false, true, true, false, true, true, true, true, false, true, true, true, false, false, false, false] rfl rfl (any_of HT_.out (by kernel_rfl)) (fun _ _ _ h => h) (Or.inl ⟨by rfl, ?_⟩) ?_ ?_
                                rotate_left
                                · intro w'
                                  go_simp
                                  with_reducible rfl
                                rotate_left
                                · simp only [Act.put, List.setIfInBounds_toArray, List.set_cons_zero, List.set_cons_succ, i64_w, i32_w]
                                  rfl
                                refine take_ (i := 14) (N := some 39) (v := ?_) (a' := ?_) #[true, true, false, true, true, false, true, true, false, true, true, false, true, true, true, true, true, false, true, true, false, true, true, false, true, true, true, true, false, true, true, true, false, false, false, false] rfl rfl (take_ofW HT_.out HW_.out (by kernel_rfl)) (fun _ _ _ h => h) (Or.inl ⟨by rfl, ?_⟩) hHeld ?_ ?_
                                rotate_left
                                · intro w' s0
                                  go_simp
                                  with_reducible rfl
                                rotate_left
                                · simp only [Act.put, List.setIfInBounds_toArray, List.set_cons_zero, List.set_cons_succ, i64_w, i32_w]
                                  rfl
                                refine one_ (i := 2) (N := some 27) #[true, true, true, true, true, false, true, true, false, true, true, false, true, true, true, true, true, false, true, true, false, true, true, false, true, true, true, true, false, true, true, true, false, false, false, false] rfl rfl (one_of HT_.out (by kernel_rfl)) (by decide) (fun K hK => ?_)
                                refine goes_ Try.func42 (by kernel_rfl) rfl #[.slice A36 ((l0.take 2).drop 0).length 2] (by rfl) rfl rfl (by (try simp only [List.map_toArray, List.map_cons, List.map_nil]); first | done | (rw [show ((l0.take 2).drop 0).length = 2 from (by rw [List.length_drop, List.length_take]; have h_ : (2 : Int) ≤ (l0.length : Int) := of_decide_eq_true (by first | (with_reducible assumption) | assumption); omega)] <;> rfl) | rfl | (simp only [List.length_drop, List.length_take]; rfl) | (go_simp; done) | (simp [Act.eval, IntKind.signed]; done) | (simp [Act.eval, IntKind.signed]; rfl)) ?_
                                with_reducible refine (tcp_two.calls _ _ ((l0.take 2).drop 0) t333 _ ?side1 ?side2 A13.out).mono ?_
                                (case side1 => repeat (first | exact (Kd.C_below HR332.out HB.out) | (with_reducible refine Kd.C_alloc ?_ _) | (with_reducible refine Kd.C_drewN ?_ _) | (with_reducible refine Kd.C_drew ?_)))
                                (case side2 => exact HC332.out)
                                rintro e w' ⟨rfl, ⟨nd, rfl⟩⟩
                                refine ⟨_, rfl, ?_⟩
                                refine hK.out _ _ (((HB.out.cell (World.block_lt_of_cell? w _ hw340_0)).trans hw340_0)) (fun hHeld => ?_)
                                clear hK K
                                refine norm_ (a' := ?_) ?_ ?_
                                rotate_left
                                · show Act.put _ (some 27) _ = _
                                  simp only [Act.put, List.setIfInBounds_toArray, List.set_cons_zero, List.set_cons_succ, i64_w, i32_w]
                                  rfl
                                refine one_ (i := 5) (N := some 30) #[true, true, true, true, true, true, true, true, false, true, true, false, true, true, true, true, true, false, true, true, false, true, true, false, true, true, true, true, false, true, true, true, false, false, false, false] rfl rfl (one_of HT_.out (by kernel_rfl)) (by decide) (fun K hK => ?_)
                                refine goes_ Try.func42 (by kernel_rfl) rfl #[.slice A37 ((l0.take 4).drop 2).length 2] (by rfl) rfl rfl (by (try simp only [List.map_toArray, List.map_cons, List.map_nil]); first | done | (rw [show ((l0.take 4).drop 2).length = 2 from (by rw [List.length_drop, List.length_take]; have h_ : (4 : Int) ≤ (l0.length : Int) := of_decide_eq_true (by first | (with_reducible assumption) | assumption); omega)] <;> rfl) | rfl | (simp only [List.length_drop, List.length_take]; rfl) | (go_simp; done) | (simp [Act.eval, IntKind.signed]; done) | (simp [Act.eval, IntKind.signed]; rfl)) ?_
                                with_reducible refine (tcp_two.calls _ _ ((l0.take 4).drop 2) t335 _ ?side1 ?side2 A15.out).mono ?_
                                (case side1 => repeat (first | exact (Kd.C_below HR334.out (by repeat (first | (with_reducible first | exact HB.out | apply below_alloc | apply pw_below_drewN | apply below_drew1 | refine below_set ?_ GE330.out) | exact HB.out))) | (with_reducible refine Kd.C_alloc ?_ _) | (with_reducible refine Kd.C_drewN ?_ _) | (with_reducible refine Kd.C_drew ?_)))
                                (case side2 => exact HC334.out)
                                rintro e w' ⟨rfl, ⟨nd, rfl⟩⟩
                                refine ⟨_, rfl, ?_⟩
                                refine hK.out _ _ (((HB.out.cell (World.block_lt_of_cell? w _ hw340_0)).trans hw340_0)) (fun hHeld => ?_)
                                clear hK K
                                refine norm_ (a' := ?_) ?_ ?_
                                rotate_left
                                · show Act.put _ (some 30) _ = _
                                  simp only [Act.put, List.setIfInBounds_toArray, List.set_cons_zero, List.set_cons_succ, i64_w, i32_w]
                                  rfl
                                refine one_ (i := 8) (N := some 33) #[true, true, true, true, true, true, true, true, true, true, true, false, true, true, true, true, true, false, true, true, false, true, true, false, true, true, true, true, false, true, true, true, false, false, false, false] rfl rfl (one_of HT_.out (by kernel_rfl)) (by decide) (fun K hK => ?_)
                                refine goes_ Try.func43 (by kernel_rfl) rfl #[.slice A38 ((l0.take 8).drop 4).length 4] (by rfl) rfl rfl (by (try simp only [List.map_toArray, List.map_cons, List.map_nil]); first | done | (rw [show ((l0.take 8).drop 4).length = 4 from (by rw [List.length_drop, List.length_take]; have h_ : (8 : Int) ≤ (l0.length : Int) := of_decide_eq_true (by first | (with_reducible assumption) | assumption); omega)] <;> rfl) | rfl | (simp only [List.length_drop, List.length_take]; rfl) | (go_simp; done) | (simp [Act.eval, IntKind.signed]; done) | (simp [Act.eval, IntKind.signed]; rfl)) ?_
                                with_reducible refine (tcp_four.calls _ _ ((l0.take 8).drop 4) t337 _ ?side1 ?side2 A17.out).mono ?_
                                (case side1 => repeat (first | exact (Kd.C_below HR336.out (by repeat (first | (with_reducible first | exact HB.out | apply below_alloc | apply pw_below_drewN | apply below_drew1 | refine below_set ?_ GE330.out) | exact HB.out))) | (with_reducible refine Kd.C_alloc ?_ _) | (with_reducible refine Kd.C_drewN ?_ _) | (with_reducible refine Kd.C_drew ?_)))
                                (case side2 => exact HC336.out)
                                rintro e w' ⟨rfl, ⟨nd, rfl⟩⟩
                                refine ⟨_, rfl, ?_⟩
                                refine hK.out _ _ (((HB.out.cell (World.block_lt_of_cell? w _ hw340_0)).trans hw340_0)) (fun hHeld => ?_)
                                clear hK K
                                refine norm_ (a' := ?_) ?_ ?_
                                rotate_left
                                · show Act.put _ (some 33) _ = _
                                  simp only [Act.put, List.setIfInBounds_toArray, List.set_cons_zero, List.set_cons_succ, i64_w, i32_w]
                                  rfl
                                refine one_ (i := 11) (N := some 36) #[true, true, true, true, true, true, true, true, true, true, true, true, true, true, true, true, true, false, true, true, false, true, true, false, true, true, true, true, false, true, true, true, false, false, false, false] rfl rfl (one_of HT_.out (by kernel_rfl)) (by decide) (fun K hK => ?_)
                                refine goes_ Try.func43 (by kernel_rfl) rfl #[.slice A39 ((l0.take 12).drop 8).length 4] (by rfl) rfl rfl (by (try simp only [List.map_toArray, List.map_cons, List.map_nil]); first | done | (rw [show ((l0.take 12).drop 8).length = 4 from (by rw [List.length_drop, List.length_take]; have h_ : (12 : Int) ≤ (l0.length : Int) := of_decide_eq_true (by first | (with_reducible assumption) | assumption); omega)] <;> rfl) | rfl | (simp only [List.length_drop, List.length_take]; rfl) | (go_simp; done) | (simp [Act.eval, IntKind.signed]; done) | (simp [Act.eval, IntKind.signed]; rfl)) ?_
                                with_reducible refine (tcp_four.calls _ _ ((l0.take 12).drop 8) t339 _ ?side1 ?side2 A19.out).mono ?_
                                (case side1 => repeat (first | exact (Kd.C_below HR338.out (by repeat (first | (with_reducible first | exact HB.out | apply below_alloc | apply pw_below_drewN | apply below_drew1 | refine below_set ?_ GE330.out) | exact HB.out))) | (with_reducible refine Kd.C_alloc ?_ _) | (with_reducible refine Kd.C_drewN ?_ _) | (with_reducible refine Kd.C_drew ?_)))
                                (case side2 => exact HC338.out)
                                rintro e w' ⟨rfl, ⟨nd, rfl⟩⟩
                                refine ⟨_, rfl, ?_⟩
                                refine hK.out _ _ (((HB.out.cell (World.block_lt_of_cell? w _ hw340_0)).trans hw340_0)) (fun hHeld => ?_)
                                clear hK K
                                refine norm_ (a' := ?_) ?_ ?_
                                rotate_left
                                · show Act.put _ (some 36) _ = _
                                  simp only [Act.put, List.setIfInBounds_toArray, List.set_cons_zero, List.set_cons_succ, i64_w, i32_w]
                                  rfl
                                refine one_ (i := 17) (N := some 42) #[true, true, true, true, true, true, true, true, true, true, true, true, true, true, true, true, true, true, true, true, false, true, true, false, true, true, true, true, false, true, true, true, false, false, false, false] rfl rfl (one_of HT_.out (by kernel_rfl)) (by decide) (fun K hK => ?_)
                                refine goes_ Try.func42 (by kernel_rfl) rfl #[.slice A40 ((l0.take 16).drop 14).length 2] (by rfl) rfl rfl (by (try simp only [List.map_toArray, List.map_cons, List.map_nil]); first | done | (rw [show ((l0.take 16).drop 14).length = 2 from (by rw [List.length_drop, List.length_take]; have h_ : (16 : Int) ≤ (l0.length : Int) := of_decide_eq_true (by first | (with_reducible assumption) | assumption); omega)] <;> rfl) | rfl | (simp only [List.length_drop, List.length_take]; rfl) | (go_simp; done) | (simp [Act.eval, IntKind.signed]; done) | (simp [Act.eval, IntKind.signed]; rfl)) ?_
                                with_reducible refine (tcp_two.calls _ _ ((l0.take 16).drop 14) t342 _ ?side1 ?side2 A22.out).mono ?_
                                (case side1 => repeat (first | exact (Kd.C_below HR341.out (by repeat (first | (with_reducible first | exact HB.out | apply below_alloc | apply pw_below_drewN | apply below_drew1 | refine below_set ?_ GE330.out) | exact HB.out))) | (with_reducible refine Kd.C_alloc ?_ _) | (with_reducible refine Kd.C_drewN ?_ _) | (with_reducible refine Kd.C_drew ?_)))
                                (case side2 => exact HC341.out)
                                rintro e w' ⟨rfl, ⟨nd, rfl⟩⟩
                                refine ⟨_, rfl, ?_⟩
                                refine hK.out _ _ (((HB.out.cell (World.block_lt_of_cell? w _ hw340_0)).trans hw340_0)) (fun hHeld => ?_)
                                clear hK K
                                refine norm_ (a' := ?_) ?_ ?_
                                rotate_left
                                · show Act.put _ (some 42) _ = _
                                  simp only [Act.put, List.setIfInBounds_toArray, List.set_cons_zero, List.set_cons_succ, i64_w, i32_w]
                                  rfl
                                refine one_ (i := 20) (N := some 45) #[true, true, true, true, true, true, true, true, true, true, true, true, true, true, true, true, true, true, true, true, true, true, true, false, true, true, true, true, false, true, true, true, false, false, false, false] rfl rfl (one_of HT_.out (by kernel_rfl)) (by decide) (fun K hK => ?_)
                                refine goes_ Try.func42 (by kernel_rfl) rfl #[.slice A41 ((l0.take 18).drop 16).length 2] (by rfl) rfl rfl (by (try simp only [List.map_toArray, List.map_cons, List.map_nil]); first | done | (rw [show ((l0.take 18).drop 16).length = 2 from (by rw [List.length_drop, List.length_take]; have h_ : (18 : Int) ≤ (l0.length : Int) := of_decide_eq_true (by first | (with_reducible assumption) | assumption); omega)] <;> rfl) | rfl | (simp only [List.length_drop, List.length_take]; rfl) | (go_simp; done) | (simp [Act.eval, IntKind.signed]; done) | (simp [Act.eval, IntKind.signed]; rfl)) ?_
                                with_reducible refine (tcp_two.calls _ _ ((l0.take 18).drop 16) t344 _ ?side1 ?side2 A24.out).mono ?_
                                (case side1 => repeat (first | exact (Kd.C_below HR343.out (by repeat (first | (with_reducible first | exact HB.out | apply below_alloc | apply pw_below_drewN | apply below_drew1 | refine below_set ?_ GE330.out) | exact HB.out))) | (with_reducible refine Kd.C_alloc ?_ _) | (with_reducible refine Kd.C_drewN ?_ _) | (with_reducible refine Kd.C_drew ?_)))
                                (case side2 => exact HC343.out)
                                rintro e w' ⟨rfl, ⟨nd, rfl⟩⟩
                                refine ⟨_, rfl, ?_⟩
                                refine hK.out _ _ (((HB.out.cell (World.block_lt_of_cell? w _ hw340_0)).trans hw340_0)) (fun hHeld => ?_)
                                clear hK K
                                refine norm_ (a' := ?_) ?_ ?_
                                rotate_left
                                · show Act.put _ (some 45) _ = _
                                  simp only [Act.put, List.setIfInBounds_toArray, List.set_cons_zero, List.set_cons_succ, i64_w, i32_w]
                                  rfl
                                refine one_ (i := 23) (N := some 48) #[true, true, true, true, true, true, true, true, true, true, true, true, true, true, true, true, true, true, true, true, true, true, true, true, true, true, true, true, false, true, true, true, false, false, false, false] rfl rfl (one_of HT_.out (by kernel_rfl)) (by decide) (fun K hK => ?_)
                                refine goes_ Try.func42 (by kernel_rfl) rfl #[.slice A42 ((l0.take 20).drop 18).length 2] (by rfl) rfl rfl (by (try simp only [List.map_toArray, List.map_cons, List.map_nil]); first | done | (rw [show ((l0.take 20).drop 18).length = 2 from (by rw [List.length_drop, List.length_take]; have h_ : (20 : Int) ≤ (l0.length : Int) := of_decide_eq_true (by first | (with_reducible assumption) | assumption); omega)] <;> rfl) | rfl | (simp only [List.length_drop, List.length_take]; rfl) | (go_simp; done) | (simp [Act.eval, IntKind.signed]; done) | (simp [Act.eval, IntKind.signed]; rfl)) ?_
                                with_reducible refine (tcp_two.calls _ _ ((l0.take 20).drop 18) t346 _ ?side1 ?side2 A26.out).mono ?_
                                (case side1 => repeat (first | exact (Kd.C_below HR345.out (by repeat (first | (with_reducible first | exact HB.out | apply below_alloc | apply pw_below_drewN | apply below_drew1 | refine below_set ?_ GE330.out) | exact HB.out))) | (with_reducible refine Kd.C_alloc ?_ _) | (with_reducible refine Kd.C_drewN ?_ _) | (with_reducible refine Kd.C_drew ?_)))
                                (case side2 => exact HC345.out)
                                rintro e w' ⟨rfl, ⟨nd, rfl⟩⟩
                                refine ⟨_, rfl, ?_⟩
                                refine hK.out _ _ (((HB.out.cell (World.block_lt_of_cell? w _ hw340_0)).trans hw340_0)) (fun hHeld => ?_)
                                clear hK K
                                refine norm_ (a' := ?_) ?_ ?_
                                rotate_left
                                · show Act.put _ (some 48) _ = _
                                  simp only [Act.put, List.setIfInBounds_toArray, List.set_cons_zero, List.set_cons_succ, i64_w, i32_w]
                                  rfl
                                refine one_ (i := 28) (N := some 53) #[true, true, true, true, true, true, true, true, true, true, true, true, true, true, true, true, true, true, true, true, true, true, true, true, true, true, true, true, true, true, true, true, false, false, false, false] rfl rfl (one_of HT_.out (by kernel_rfl)) (by decide) (fun K hK => ?_)
                                refine goes_ Try.func32 (by kernel_rfl) rfl #[.slice A43 ((l0.take ((ji30) : Int).toNat).drop 20).length ((ji30).toNat - 20)] (by rfl) rfl rfl (by (try simp only [List.map_toArray, List.map_cons, List.map_nil]); first | done | (rw [show ((l0.take ((ji30) : Int).toNat).drop 20).length = ((ji30).toNat - 20) from (by rw [List.length_drop, List.length_take]; have h_ : ((ji30) : Int) ≤ (l0.length : Int) := of_decide_eq_true (by first | (with_reducible assumption) | assumption); omega)] <;> rfl) | (simp only [hji30]; rfl) | rfl | (simp only [List.length_drop, List.length_take]; rfl) | (go_simp; done) | (simp [Act.eval, IntKind.signed]; done) | (simp [Act.eval, IntKind.signed]; rfl)) ?_
                                with_reducible refine (slices_Clone_byte_byte.calls _ _ ((l0.take ((ji30) : Int).toNat).drop 20) t348 _ ?side1 ?side2 A29.out).mono ?_
                                (case side1 => repeat (first | exact (Kd.C_below HR347.out (by repeat (first | (with_reducible first | exact HB.out | apply below_alloc | apply pw_below_drewN | apply below_drew1 | refine below_set ?_ GE330.out) | exact HB.out))) | (with_reducible refine Kd.C_alloc ?_ _) | (with_reducible refine Kd.C_drewN ?_ _) | (with_reducible refine Kd.C_drew ?_)))
                                (case side2 => exact HC347.out)
                                rintro e w45 ⟨v349, rfl, ho0, hb⟩
                                refine ⟨_, rfl, ?_⟩
                                have n0_ := Aside0.mk (Kd.R_lower ho0 (below_size (by repeat (first | (with_reducible first | exact HB.out | apply below_alloc | apply pw_below_drewN | apply below_drew1 | refine below_set ?_ GE330.out) | exact HB.out))))
                                have n1_ := Aside0.mk (blk_below (g := gb330) (o := .cells #[.int .u16 0, .int .u16 0, .int .u32 0, .int .u32 0, .int .u8 0, .int .u16 0, .int .u16 0, .int .u16 0, .slice none 0 0, .slice none 0 0] 49 (0, 0)) (by (with_reducible repeat (first | refine blk_drewN ?_ _ | refine blk_drew ?_ | refine blk_alloc ?_ _)); exact BK330.out) hb)
                                have n2_ := Aside0.mk (below_step (by repeat (first | (with_reducible first | exact HB.out | apply below_alloc | apply pw_below_drewN | apply below_drew1 | refine below_set ?_ GE330.out) | exact HB.out)) hb)
                                clear BK330
                                clear HB
                                have HO350 := n0_
                                have BK330 := n1_
                                have HB := n2_
                                clear n0_ n1_ n2_
                                (try clear hb)
                                (try clear hb2)
                                (try clear hk)
                                (try clear hi)
                                (try clear ho0)
                                refine hK.out _ _ (((HB.out.cell (World.block_lt_of_cell? w _ hw340_0)).trans hw340_0)) (fun hHeld => ?_)
                                clear hK K
                                refine norm_ (a' := ?_) ?_ ?_
                                rotate_left
                                · show Act.put _ (some 53) _ = _
                                  simp only [Act.put, List.setIfInBounds_toArray, List.set_cons_zero, List.set_cons_succ, i64_w, i32_w]
                                  rfl
                                refine one_ (i := 32) (N := some 57) #[true, true, true, true, true, true, true, true, true, true, true, true, true, true, true, true, true, true, true, true, true, true, true, true, true, true, true, true, true, true, true, true, true, false, false, false] rfl rfl (one_of HT_.out (by kernel_rfl)) (by decide) (fun K hK => ?_)
                                refine goes_ Try.func32 (by kernel_rfl) rfl #[.slice A44 (l0.drop ((ji30) : Int).toNat).length (c0 - (ji30).toNat)] (by rfl) rfl rfl (by (try simp only [List.map_toArray, List.map_cons, List.map_nil]); first | done | (rw [show (l0.drop ((ji30) : Int).toNat).length = (l0.length - (ji30).toNat) from List.length_drop] <;> rfl) | (simp only [hji30]; rfl) | rfl | (simp only [List.length_drop, List.length_take]; rfl) | (go_simp; done) | (simp [Act.eval, IntKind.signed]; done) | (simp [Act.eval, IntKind.signed]; rfl)) ?_
                                with_reducible refine (slices_Clone_byte_byte.calls _ _ (l0.drop ((ji30) : Int).toNat) t352 _ ?side1 ?side2 A33.out).mono ?_
                                (case side1 => repeat (first | exact (Kd.C_below HR351.out HB.out) | (with_reducible refine Kd.C_alloc ?_ _) | (with_reducible refine Kd.C_drewN ?_ _) | (with_reducible refine Kd.C_drew ?_)))
                                (case side2 => exact HC351.out)
                                rintro e w46 ⟨v353, rfl, ho0, hb⟩
                                refine ⟨_, rfl, ?_⟩
                                have n0_ := Aside0.mk (Kd.R_elder' (by (with_reducible repeat (first | apply Kd.R_alloc | apply Kd.R_drewN | apply Kd.R_drew)); exact HO350.out) (Kd.R_base ho0) hb)
                                have n1_ := Aside0.mk (Kd.R_lower (Kd.R_new' ho0 (Kd.R_lt (by (with_reducible repeat (first | apply Kd.R_alloc | apply Kd.R_drewN | apply Kd.R_drew)); exact HO350.out))) (below_size (by repeat (first | (with_reducible first | exact HB.out | apply below_alloc | apply pw_below_drewN | apply below_drew1 | refine below_set ?_ GE330.out) | exact HB.out))))
                                have n2_ := Aside0.mk (blk_below (g := gb330) (o := .cells #[.int .u16 0, .int .u16 0, .int .u32 0, .int .u32 0, .int .u8 0, .int .u16 0, .int .u16 0, .int .u16 0, .slice none 0 0, .slice none 0 0] 49 (0, 0)) (by (with_reducible repeat (first | refine blk_drewN ?_ _ | refine blk_drew ?_ | refine blk_alloc ?_ _)); exact BK330.out) hb)
                                have n3_ := Aside0.mk (below_step (by repeat (first | (with_reducible first | exact HB.out | apply below_alloc | apply pw_below_drewN | apply below_drew1 | refine below_set ?_ GE330.out) | exact HB.out)) hb)
                                clear HO350
                                clear BK330
                                clear HB
                                have HO350 := n0_
                                have HO354 := n1_
                                have BK330 := n2_
                                have HB := n3_
                                clear n0_ n1_ n2_ n3_
                                (try clear hb)
                                (try clear hb2)
                                (try clear hk)
                                (try clear hi)
                                (try clear ho0)
                                obtain ⟨Ao47, co47, eo47⟩ := Kd.R_slice HO354.out
                                (first | subst eo47 | (injection eo47 with f1_ f2_ f3_; have f4_ := f1_.symm; have f5_ := f3_.symm; clear f1_ f2_ f3_; subst f4_; subst f5_))
                                obtain ⟨Ao48, co48, eo48⟩ := Kd.R_slice HO350.out
                                (first | subst eo48 | (injection eo48 with f1_ f2_ f3_; have f4_ := f1_.symm; have f5_ := f3_.symm; clear f1_ f2_ f3_; subst f4_; subst f5_))
                                refine hK.out _ _ (((HB.out.cell (World.block_lt_of_cell? w _ hw340_0)).trans hw340_0)) (fun hHeld => ?_)
                                clear hK K
                                refine norm_ (a' := ?_) ?_ ?_
                                rotate_left
                                · show Act.put _ (some 57) _ = _
                                  simp only [Act.put, List.setIfInBounds_toArray, List.set_cons_zero, List.set_cons_succ, i64_w, i32_w]
                                  rfl
                                refine pure_ (i := 33) (N := some 58) (v := ?_) (a' := ?_) #[true, true, true, true, true, true, true, true, true, true, true, true, true, true, true, true, true, true, true, true, true, true, true, true, true, true, true, true, true, true, true, true, true, true, false, false] rfl rfl (any_of HT_.out (by kernel_rfl)) (fun _ _ _ h => h) (Or.inl ⟨by rfl, ?_⟩) ?_ ?_
                                rotate_left
                                · intro w'
                                  go_simp
                                  with_reducible rfl
                                rotate_left
                                · simp only [Act.put, List.setIfInBounds_toArray, List.set_cons_zero, List.set_cons_succ, i64_w, i32_w]
                                  rfl
                                refine one_ (i := 34) (N := none) #[true, true, true, true, true, true, true, true, true, true, true, true, true, true, true, true, true, true, true, true, true, true, true, true, true, true, true, true, true, true, true, true, true, true, true, false] rfl rfl (one_of HT_.out (by kernel_rfl)) (by decide) (fun K hK => ?_)
                                have hs49 : w46.cell? ⟨gb330, 0, none⟩ = some (.int .u16 0) := (blk_cell BK330.out 0).trans rfl
                                have hfs49 := blk_frozen BK330.out 0
                                have hs50 : w46.cell? ⟨gb330, 1, none⟩ = some (.int .u16 0) := (blk_cell BK330.out 1).trans rfl
                                have hfs50 := blk_frozen BK330.out 1
                                have hs51 : w46.cell? ⟨gb330, 2, none⟩ = some (.int .u32 0) := (blk_cell BK330.out 2).trans rfl
                                have hfs51 := blk_frozen BK330.out 2
                                have hs52 : w46.cell? ⟨gb330, 3, none⟩ = some (.int .u32 0) := (blk_cell BK330.out 3).trans rfl
                                have hfs52 := blk_frozen BK330.out 3
                                have hs53 : w46.cell? ⟨gb330, 4, none⟩ = some (.int .u8 0) := (blk_cell BK330.out 4).trans rfl
                                have hfs53 := blk_frozen BK330.out 4
                                have hs54 : w46.cell? ⟨gb330, 5, none⟩ = some (.int .u16 0) := (blk_cell BK330.out 5).trans rfl
                                have hfs54 := blk_frozen BK330.out 5
                                have hs55 : w46.cell? ⟨gb330, 6, none⟩ = some (.int .u16 0) := (blk_cell BK330.out 6).trans rfl
                                have hfs55 := blk_frozen BK330.out 6
                                have hs56 : w46.cell? ⟨gb330, 7, none⟩ = some (.int .u16 0) := (blk_cell BK330.out 7).trans rfl
                                have hfs56 := blk_frozen BK330.out 7
                                have hs57 : w46.cell? ⟨gb330, 8, none⟩ = some (.slice none 0 0) := (blk_cell BK330.out 8).trans rfl
                                have hfs57 := blk_frozen BK330.out 8
                                have hs58 : w46.cell? ⟨gb330, 9, none⟩ = some (.slice none 0 0) := (blk_cell BK330.out 9).trans rfl
                                have hfs58 := blk_frozen BK330.out 9
                                refine skip_ (w1 := ?_) (by rfl) rfl ?_ ?_
                                rotate_left
                                · go_simp
                                  rfl
                                refine hK.out _ _ (((cell_far (p := ⟨gb330, _, none⟩) (by first | exact Nat.ne_of_lt (Nat.lt_of_lt_of_le (by have := World.block_lt_of_cell? _ _ hw340_0; first | rwa [add_block] at this | exact this) GW330.out) | (rw [add_block]; exact Nat.ne_of_lt (Nat.lt_of_lt_of_le (by have := World.block_lt_of_cell? _ _ hw340_0; first | rwa [add_block] at this | exact this) GW330.out)) | (show (Addr.add _ _).block ≠ _; rw [add_block]; exact Nat.ne_of_lt (Nat.lt_of_lt_of_le (by have := World.block_lt_of_cell? _ _ hw340_0; first | rwa [add_block] at this | exact this) GW330.out)) | (dsimp only; exact Nat.ne_of_lt (Nat.lt_of_lt_of_le (by have := World.block_lt_of_cell? _ _ hw340_0; first | rwa [add_block] at this | exact this) GW330.out))) _).trans (((cell_far (p := ⟨gb330, _, none⟩) (by first | exact Nat.ne_of_lt (Nat.lt_of_lt_of_le (by have := World.block_lt_of_cell? _ _ hw340_0; first | rwa [add_block] at this | exact this) GW330.out) | (rw [add_block]; exact Nat.ne_of_lt (Nat.lt_of_lt_of_le (by have := World.block_lt_of_cell? _ _ hw340_0; first | rwa [add_block] at this | exact this) GW330.out)) | (show (Addr.add _ _).block ≠ _; rw [add_block]; exact Nat.ne_of_lt (Nat.lt_of_lt_of_le (by have := World.block_lt_of_cell? _ _ hw340_0; first | rwa [add_block] at this | exact this) GW330.out)) | (dsimp only; exact Nat.ne_of_lt (Nat.lt_of_lt_of_le (by have := World.block_lt_of_cell? _ _ hw340_0; first | rwa [add_block] at this | exact this) GW330.out))) _).trans (((cell_far (p := ⟨gb330, _, none⟩) (by first | exact Nat.ne_of_lt (Nat.lt_of_lt_of_le (by have := World.block_lt_of_cell? _ _ hw340_0; first | rwa [add_block] at this | exact this) GW330.out) | (rw [add_block]; exact Nat.ne_of_lt (Nat.lt_of_lt_of_le (by have := World.block_lt_of_cell? _ _ hw340_0; first | rwa [add_block] at this | exact this) GW330.out)) | (show (Addr.add _ _).block ≠ _; rw [add_block]; exact Nat.ne_of_lt (Nat.lt_of_lt_of_le (by have := World.block_lt_of_cell? _ _ hw340_0; first | rwa [add_block] at this | exact this) GW330.out)) | (dsimp only; exact Nat.ne_of_lt (Nat.lt_of_lt_of_le (by have := World.block_lt_of_cell? _ _ hw340_0; first | rwa [add_block] at this | exact this) GW330.out))) _).trans (((cell_far (p := ⟨gb330, _, none⟩) (by first | exact Nat.ne_of_lt (Nat.lt_of_lt_of_le (by have := World.block_lt_of_cell? _ _ hw340_0; first | rwa [add_block] at this | exact this) GW330.out) | (rw [add_block]; exact Nat.ne_of_lt (Nat.lt_of_lt_of_le (by have := World.block_lt_of_cell? _ _ hw340_0; first | rwa [add_block] at this | exact this) GW330.out)) | (show (Addr.add _ _).block ≠ _; rw [add_block]; exact Nat.ne_of_lt (Nat.lt_of_lt_of_le (by have := World.block_lt_of_cell? _ _ hw340_0; first | rwa [add_block] at this | exact this) GW330.out)) | (dsimp only; exact Nat.ne_of_lt (Nat.lt_of_lt_of_le (by have := World.block_lt_of_cell? _ _ hw340_0; first | rwa [add_block] at this | exact this) GW330.out))) _).trans (((cell_far (p := ⟨gb330, _, none⟩) (by first | exact Nat.ne_of_lt (Nat.lt_of_lt_of_le (by have := World.block_lt_of_cell? _ _ hw340_0; first | rwa [add_block] at this | exact this) GW330.out) | (rw [add_block]; exact Nat.ne_of_lt (Nat.lt_of_lt_of_le (by have := World.block_lt_of_cell? _ _ hw340_0; first | rwa [add_block] at this | exact this) GW330.out)) | (show (Addr.add _ _).block ≠ _; rw [add_block]; exact Nat.ne_of_lt (Nat.lt_of_lt_of_le (by have := World.block_lt_of_cell? _ _ hw340_0; first | rwa [add_block] at this | exact this) GW330.out)) | (dsimp only; exact Nat.ne_of_lt (Nat.lt_of_lt_of_le (by have := World.block_lt_of_cell? _ _ hw340_0; first | rwa [add_block] at this | exact this) GW330.out))) _).trans (((cell_far (p := ⟨gb330, _, none⟩) (by first | exact Nat.ne_of_lt (Nat.lt_of_lt_of_le (by have := World.block_lt_of_cell? _ _ hw340_0; first | rwa [add_block] at this | exact this) GW330.out) | (rw [add_block]; exact Nat.ne_of_lt (Nat.lt_of_lt_of_le (by have := World.block_lt_of_cell? _ _ hw340_0; first | rwa [add_block] at this | exact this) GW330.out)) | (show (Addr.add _ _).block ≠ _; rw [add_block]; exact Nat.ne_of_lt (Nat.lt_of_lt_of_le (by have := World.block_lt_of_cell? _ _ hw340_0; first | rwa [add_block] at this | exact this) GW330.out)) | (dsimp only; exact Nat.ne_of_lt (Nat.lt_of_lt_of_le (by have := World.block_lt_of_cell? _ _ hw340_0; first | rwa [add_block] at this | exact this) GW330.out))) _).trans (((cell_far (p := ⟨gb330, _, none⟩) (by first | exact Nat.ne_of_lt (Nat.lt_of_lt_of_le (by have := World.block_lt_of_cell? _ _ hw340_0; first | rwa [add_block] at this | exact this) GW330.out) | (rw [add_block]; exact Nat.ne_of_lt (Nat.lt_of_lt_of_le (by have := World.block_lt_of_cell? _ _ hw340_0; first | rwa [add_block] at this | exact this) GW330.out)) | (show (Addr.add _ _).block ≠ _; rw [add_block]; exact Nat.ne_of_lt (Nat.lt_of_lt_of_le (by have := World.block_lt_of_cell? _ _ hw340_0; first | rwa [add_block] at this | exact this) GW330.out)) | (dsimp only; exact Nat.ne_of_lt (Nat.lt_of_lt_of_le (by have := World.block_lt_of_cell? _ _ hw340_0; first | rwa [add_block] at this | exact this) GW330.out))) _).trans (((cell_far (p := ⟨gb330, _, none⟩) (by first | exact Nat.ne_of_lt (Nat.lt_of_lt_of_le (by have := World.block_lt_of_cell? _ _ hw340_0; first | rwa [add_block] at this | exact this) GW330.out) | (rw [add_block]; exact Nat.ne_of_lt (Nat.lt_of_lt_of_le (by have := World.block_lt_of_cell? _ _ hw340_0; first | rwa [add_block] at this | exact this) GW330.out)) | (show (Addr.add _ _).block ≠ _; rw [add_block]; exact Nat.ne_of_lt (Nat.lt_of_lt_of_le (by have := World.block_lt_of_cell? _ _ hw340_0; first | rwa [add_block] at this | exact this) GW330.out)) | (dsimp only; exact Nat.ne_of_lt (Nat.lt_of_lt_of_le (by have := World.block_lt_of_cell? _ _ hw340_0; first | rwa [add_block] at this | exact this) GW330.out))) _).trans (((cell_far (p := ⟨gb330, _, none⟩) (by first | exact Nat.ne_of_lt (Nat.lt_of_lt_of_le (by have := World.block_lt_of_cell? _ _ hw340_0; first | rwa [add_block] at this | exact this) GW330.out) | (rw [add_block]; exact Nat.ne_of_lt (Nat.lt_of_lt_of_le (by have := World.block_lt_of_cell? _ _ hw340_0; first | rwa [add_block] at this | exact this) GW330.out)) | (show (Addr.add _ _).block ≠ _; rw [add_block]; exact Nat.ne_of_lt (Nat.lt_of_lt_of_le (by have := World.block_lt_of_cell? _ _ hw340_0; first | rwa [add_block] at this | exact this) GW330.out)) | (dsimp only; exact Nat.ne_of_lt (Nat.lt_of_lt_of_le (by have := World.block_lt_of_cell? _ _ hw340_0; first | rwa [add_block] at this | exact this) GW330.out))) _).trans (((cell_far (p := ⟨gb330, _, none⟩) (by first | exact Nat.ne_of_lt (Nat.lt_of_lt_of_le (by have := World.block_lt_of_cell? _ _ hw340_0; first | rwa [add_block] at this | exact this) GW330.out) | (rw [add_block]; exact Nat.ne_of_lt (Nat.lt_of_lt_of_le (by have := World.block_lt_of_cell? _ _ hw340_0; first | rwa [add_block] at this | exact this) GW330.out)) | (show (Addr.add _ _).block ≠ _; rw [add_block]; exact Nat.ne_of_lt (Nat.lt_of_lt_of_le (by have := World.block_lt_of_cell? _ _ hw340_0; first | rwa [add_block] at this | exact this) GW330.out)) | (dsimp only; exact Nat.ne_of_lt (Nat.lt_of_lt_of_le (by have := World.block_lt_of_cell? _ _ hw340_0; first | rwa [add_block] at this | exact this) GW330.out))) _).trans (hHeld))))))))))))))))))))) (fun hHeld => ?_)
                                clear hK K
                                refine pure_ (i := 35) (N := some 3) (v := ?_) (a' := ?_) #[true, true, true, true, true, true, true, true, true, true, true, true, true, true, true, true, true, true, true, true, true, true, true, true, true, true, true, true, true, true, true, true, true, true, true, true] rfl rfl (any_of HT_.out (by kernel_rfl)) (fun _ _ _ h => h) (Or.inl ⟨by rfl, ?_⟩) ?_ ?_
                                rotate_left
                                · intro w'
                                  go_simp
                                  with_reducible rfl
                                rotate_left
                                · simp only [Act.put, List.setIfInBounds_toArray, List.set_cons_zero, List.set_cons_succ, i64_w, i32_w]
                                  rfl
                                refine done_ (done_of HT_.out (by kernel_rfl)) ?_
                                try go_wp2
                                refine bodyPost_ret (results_ct rfl _ _ gb330 49 #[.int .u16 t333, .int .u16 t335, .int .u32 t337, .int .u32 t339, .int .u8 (rd l0 13), .int .u16 t342, .int .u16 t344, .int .u16 t346, .slice Ao48 t348.length co48, .slice Ao47 t352.length co47] (0, 0) _ rfl (by (with_reducible repeat (first | refine blk_drewN ?_ _ | refine blk_drew ?_ | refine blk_alloc ?_ _)); refine blk_put (cs := #[.int .u16 t333, .int .u16 t335, .int .u32 t337, .int .u32 t339, .int .u8 (rd l0 13), .int .u16 t342, .int .u16 t344, .int .u16 t346, .slice Ao48 t348.length co48, .slice none 0 0]) ?_ 9 _ rfl; (with_reducible repeat (first | refine blk_drewN ?_ _ | refine blk_drew ?_ | refine blk_alloc ?_ _)); refine blk_put (cs := #[.int .u16 t333, .int .u16 t335, .int .u32 t337, .int .u32 t339, .int .u8 (rd l0 13), .int .u16 t342, .int .u16 t344, .int .u16 t346, .slice none 0 0, .slice none 0 0]) ?_ 8 _ rfl; (with_reducible repeat (first | refine blk_drewN ?_ _ | refine blk_drew ?_ | refine blk_alloc ?_ _)); refine blk_put (cs := #[.int .u16 t333, .int .u16 t335, .int .u32 t337, .int .u32 t339, .int .u8 (rd l0 13), .int .u16 t342, .int .u16 t344, .int .u16 0, .slice none 0 0, .slice none 0 0]) ?_ 7 _ rfl; (with_reducible repeat (first | refine blk_drewN ?_ _ | refine blk_drew ?_ | refine blk_alloc ?_ _)); refine blk_put (cs := #[.int .u16 t333, .int .u16 t335, .int .u32 t337, .int .u32 t339, .int .u8 (rd l0 13), .int .u16 t342, .int .u16 0, .int .u16 0, .slice none 0 0, .slice none 0 0]) ?_ 6 _ rfl; (with_reducible repeat (first | refine blk_drewN ?_ _ | refine blk_drew ?_ | refine blk_alloc ?_ _)); refine blk_put (cs := #[.int .u16 t333, .int .u16 t335, .int .u32 t337, .int .u32 t339, .int .u8 (rd l0 13), .int .u16 0, .int .u16 0, .int .u16 0, .slice none 0 0, .slice none 0 0]) ?_ 5 _ rfl; (with_reducible repeat (first | refine blk_drewN ?_ _ | refine blk_drew ?_ | refine blk_alloc ?_ _)); refine blk_put (cs := #[.int .u16 t333, .int .u16 t335, .int .u32 t337, .int .u32 t339, .int .u8 0, .int .u16 0, .int .u16 0, .int .u16 0, .slice none 0 0, .slice none 0 0]) ?_ 4 _ rfl; (with_reducible repeat (first | refine blk_drewN ?_ _ | refine blk_drew ?_ | refine blk_alloc ?_ _)); refine blk_put (cs := #[.int .u16 t333, .int .u16 t335, .int .u32 t337, .int .u32 0, .int .u8 0, .int .u16 0, .int .u16 0, .int .u16 0, .slice none 0 0, .slice none 0 0]) ?_ 3 _ rfl; (with_reducible repeat (first | refine blk_drewN ?_ _ | refine blk_drew ?_ | refine blk_alloc ?_ _)); refine blk_put (cs := #[.int .u16 t333, .int .u16 t335, .int .u32 0, .int .u32 0, .int .u8 0, .int .u16 0, .int .u16 0, .int .u16 0, .slice none 0 0, .slice none 0 0]) ?_ 2 _ rfl; (with_reducible repeat (first | refine blk_drewN ?_ _ | refine blk_drew ?_ | refine blk_alloc ?_ _)); refine blk_put (cs := #[.int .u16 t333, .int .u16 0, .int .u32 0, .int .u32 0, .int .u8 0, .int .u16 0, .int .u16 0, .int .u16 0, .slice none 0 0, .slice none 0 0]) ?_ 1 _ rfl; (with_reducible repeat (first | refine blk_drewN ?_ _ | refine blk_drew ?_ | refine blk_alloc ?_ _)); refine blk_put (cs := #[.int .u16 0, .int .u16 0, .int .u32 0, .int .u32 0, .int .u8 0, .int .u16 0, .int .u16 0, .int .u16 0, .slice none 0 0, .slice none 0 0]) ?_ 0 _ rfl; (with_reducible repeat (first | refine blk_drewN ?_ _ | refine blk_drew ?_ | refine blk_alloc ?_ _)); exact BK330.out) Try.underlying49 rfl (by kernel_rfl)) rfl ?_
                                exact ⟨_, _, by first | rfl | (simp [errW_none, errW_some] <;> rfl) | (simp only [← hji30]; first | rfl | (simp [errW_none, errW_some] <;> rfl)) | (simp [*, errW_none, errW_some] <;> rfl), by (with_reducible repeat (first | apply Kd.R_alloc | apply Kd.R_drewN | apply Kd.R_drew)); exact Kd.R_mono (Kd.R_far (p := ⟨gb330, 9, none⟩) (Kd.R_far (p := ⟨gb330, 8, none⟩) (Kd.R_far (p := ⟨gb330, 7, none⟩) (Kd.R_far (p := ⟨gb330, 6, none⟩) (Kd.R_far (p := ⟨gb330, 5, none⟩) (Kd.R_far (p := ⟨gb330, 4, none⟩) (Kd.R_far (p := ⟨gb330, 3, none⟩) (Kd.R_far (p := ⟨gb330, 2, none⟩) (Kd.R_far (p := ⟨gb330, 1, none⟩) (Kd.R_far (p := ⟨gb330, 0, none⟩) (Kd.R_types HO350.out BK330.out (by decide)) (fun _ hk => hk.2) (.int .u16 t333)) (fun _ hk => hk.2) (.int .u16 t335)) (fun _ hk => hk.2) (.int .u32 t337)) (fun _ hk => hk.2) (.int .u32 t339)) (fun _ hk => hk.2) (.int .u8 (rd l0 13))) (fun _ hk => hk.2) (.int .u16 t342)) (fun _ hk => hk.2) (.int .u16 t344)) (fun _ hk => hk.2) (.int .u16 t346)) (fun _ hk => hk.2) (.slice Ao48 t348.length co48)) (fun _ hk => hk.2) (.slice Ao47 t352.length co47)) (fun _ hk => hk.1.2), by (with_reducible repeat (first | apply Kd.R_alloc | apply Kd.R_drewN | apply Kd.R_drew)); exact Kd.R_mono (Kd.R_far (p := ⟨gb330, 9, none⟩) (Kd.R_far (p := ⟨gb330, 8, none⟩) (Kd.R_far (p := ⟨gb330, 7, none⟩) (Kd.R_far (p := ⟨gb330, 6, none⟩) (Kd.R_far (p := ⟨gb330, 5, none⟩) (Kd.R_far (p := ⟨gb330, 4, none⟩) (Kd.R_far (p := ⟨gb330, 3, none⟩) (Kd.R_far (p := ⟨gb330, 2, none⟩) (Kd.R_far (p := ⟨gb330, 1, none⟩) (Kd.R_far (p := ⟨gb330, 0, none⟩) (Kd.R_types HO354.out BK330.out (by decide)) (fun _ hk => hk.2) (.int .u16 t333)) (fun _ hk => hk.2) (.int .u16 t335)) (fun _ hk => hk.2) (.int .u32 t337)) (fun _ hk => hk.2) (.int .u32 t339)) (fun _ hk => hk.2) (.int .u8 (rd l0 13))) (fun _ hk => hk.2) (.int .u16 t342)) (fun _ hk => hk.2) (.int .u16 t344)) (fun _ hk => hk.2) (.int .u16 t346)) (fun _ hk => hk.2) (.slice Ao48 t348.length co48)) (fun _ hk => hk.2) (.slice Ao47 t352.length co47)) (fun _ hk => hk.1.2), by repeat (first | (with_reducible first | exact HB.out | apply below_alloc | apply pw_below_drewN | apply below_drew1 | refine below_set ?_ GE330.out) | exact HB.out)⟩
                              · rw [if_neg c31] at H
                                exact absurd H (by simp)
                            · rw [if_neg c28] at H
                              exact absurd H (by simp)
                          · rw [if_neg c27] at H
                            exact absurd H (by simp)
                        · rw [if_neg c25] at H
                          exact absurd H (by simp)
                      · rw [if_neg c23] at H
                        exact absurd H (by simp)
                    · rw [if_neg c21] at H
                      exact absurd H (by simp)
                  · rw [if_neg c20] at H
                    exact absurd H (by simp)
                · rw [if_neg c18] at H
                  exact absurd H (by simp)
              · rw [if_neg c16] at H
                exact absurd H (by simp)
            · rw [if_neg c14] at H
              exact absurd H (by simp)
          · rw [if_neg c12] at H
            exact absurd H (by simp)
    · rw [if_neg c5] at H
      exact absurd H (by simp)

end Go.Proofs.Ytnodigdpodiphaa.PA
