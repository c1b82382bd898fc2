-- written by a patched print
import Derived.Test.YtnodigdpodiphaaPAx0
import Derived.Test.YtnodigdpodiphaaPAx8
import Derived.Test.YtnodigdpodiphaaPAx28
namespace Go.Proofs.Ytnodigdpodiphaa.PA
open Go.RowKit Go.Proofs.YtnodigdpodiphaaW.PrintWords Go.Proofs.YtnodigdpodiphaaW.PrintLast Go.Proofs.YtnodigdpodiphaaW.PrintMore
attribute [local go_sem] max2_int min2_int max_two min_two max_three min_three max_four min_four   -- for this text's walks alone
set_option linter.unusedVariables false
set_option linter.unusedSimpArgs false

/-! ### lychref1_Tcp: function 27 -/
def lychref1_Tcp.f (l0 : List Int) : Option (Int × Int × Int × Int × Int × Int × Int × Int × List Int × List Int × Int) := if (l0.length : Int) < 20 then (some (0, 0, 0, 0, 0, 0, 0, 0, ([] : List Int), ([] : List Int), 20)) else (if 12 < (l0.length : Int) then (if (wrap64 ((wrap64 ((rd l0 12) / 16)) * 4)) < 20 then (some (0, 0, 0, 0, 0, 0, 0, 0, ([] : List Int), ([] : List Int), 21)) else (if (l0.length : Int) < (wrap64 ((wrap64 ((rd l0 12) / 16)) * 4)) then (some (0, 0, 0, 0, 0, 0, 0, 0, ([] : List Int), ([] : List Int), 20)) else ((lychref1_Get16.f l0 0).bind fun t450 => ((lychref1_Get16.f l0 2).bind fun t451 => ((lychref1_Get32.f l0 4).bind fun t452 => ((lychref1_Get32.f l0 8).bind fun t453 => (if 13 < (l0.length : Int) then ((lychref1_Get16.f l0 14).bind fun t455 => ((lychref1_Get16.f l0 16).bind fun t456 => ((lychref1_Get16.f l0 18).bind fun t457 => ((lychref1_cut.f l0 20 (wrap64 ((wrap64 ((rd l0 12) / 16)) * 4))).bind fun t458 => ((lychref1_cut.f l0 (wrap64 ((wrap64 ((rd l0 12) / 16)) * 4)) (l0.length : Int)).bind fun t461 => (some (t450, t451, t452, t453, rd l0 13, t455, t456, t457, t458, t461, 0))))))) else (none)))))))) else (none))
def lychref1_Tcp.T8 : Bool × List (List Nat × List Nat) := (true, [([], []), ([0], [0]), ([], []), ([2, 1], [2]), ([], []), ([4, 3], [4]), ([], []), ([6, 5], [6]), ([], []), ([8], [8]), ([9], [9]), ([], []), ([11, 7], [11]), ([], []), ([13, 12], [13]), ([], []), ([15, 14], [15]), ([], []), ([], []), ([17, 18, 16], [17, 18]), ([], []), ([], []), ([], []), ([22], [22]), ([20, 21, 23, 19], [20, 21, 23]), ([1, 3, 5, 7, 10, 12, 14, 16, 19, 24], [1, 3, 5, 7, 10, 12, 14, 16, 19, 24]), ([25, 24, 0, 1, 2, 3, 4, 5, 6, 7, 8, 9, 10, 11, 12, 13, 14, 15, 16, 17, 18, 19, 20, 21, 22, 23, 24, 25], [25]), ([26, 0, 1, 2, 3, 4, 5, 6, 7, 8, 9, 10, 11, 12, 13, 14, 15, 16, 17, 18, 19, 20, 21, 22, 23, 24, 25, 26], [])])
def lychref1_Tcp.B8 : List Nat := [0, 1, 0, 7, 0, 31, 0, 127, 0, 256, 768, 0, 2303, 0, 14591, 0, 63743, 0, 0, 522495, 0, 0, 0, 4194304, 16775423, 33554431, 67108863, 134217727]
theorem lychref1_Tcp.tab8 : rtab .any (opsOf Try.f27 8) = lychref1_Tcp.T8 := by kernel_rfl
theorem lychref1_Tcp.bits8 : waitsOk lychref1_Tcp.T8.2 lychref1_Tcp.B8 = true := by kernel_rfl
set_option maxHeartbeats 8000000 in
set_option maxRecDepth 100000 in
theorem lychref1_Tcp.calls (A0 : Option Addr) (c0 : Nat) (l0 : List Int) (r1 : Int) (r2 : Int) (r3 : Int) (r4 : Int) (r5 : Int) (r6 : Int) (r7 : Int) (r8 : Int) (r9 : List Int) (r10 : List Int) (r11 : Int) (w : World) (hr0 : Kd.C (Kd.int .u8) w A0 l0.length l0) (hc0 : l0.length ≤ c0) (h : lychref1_Tcp.f l0 = some (r1, r2, r3, r4, r5, r6, r7, r8, r9, r10, r11)) :
    Calls Try.prog 27 #[.slice A0 l0.length c0] w fun e w' => ∃ v8_ v9_ : Value, e = .returned (.tuple #[.agg #[.int .u16 r1, .int .u16 r2, .int .u32 r3, .int .u32 r4, .int .u8 r5, .int .u16 r6, .int .u16 r7, .int .u16 r8, v8_, v9_], .int .i64 r11]) ∧ Kd.R (Kd.int .u8) 5 w' w.heap.size (fun k_ => some k_ ≠ (v9_ : Value).ownBlock) v8_ r9 ∧ Kd.R (Kd.int .u8) 5 w' w.heap.size (fun k_ => some k_ ≠ (v8_ : Value).ownBlock) v9_ r10 ∧ Below w.heap.size w w' := by
  have hu49 := Try.underlying49
  have HR0 := Aside0.mk hr0
  have HC0 := Aside0.mk hc0
  clear hr0 hc0
  have HB := Aside0.mk (Below.refl w.heap.size w)
  have H : (if (l0.length : Int) < 20 then (some (0, 0, 0, 0, 0, 0, 0, 0, ([] : List Int), ([] : List Int), 20)) else (if 12 < (l0.length : Int) then (if (wrap64 ((wrap64 ((rd l0 12) / 16)) * 4)) < 20 then (some (0, 0, 0, 0, 0, 0, 0, 0, ([] : List Int), ([] : List Int), 21)) else (if (l0.length : Int) < (wrap64 ((wrap64 ((rd l0 12) / 16)) * 4)) then (some (0, 0, 0, 0, 0, 0, 0, 0, ([] : List Int), ([] : List Int), 20)) else ((lychref1_Get16.f l0 0).bind fun t450 => ((lychref1_Get16.f l0 2).bind fun t451 => ((lychref1_Get32.f l0 4).bind fun t452 => ((lychref1_Get32.f l0 8).bind fun t453 => (if 13 < (l0.length : Int) then ((lychref1_Get16.f l0 14).bind fun t455 => ((lychref1_Get16.f l0 16).bind fun t456 => ((lychref1_Get16.f l0 18).bind fun t457 => ((lychref1_cut.f l0 20 (wrap64 ((wrap64 ((rd l0 12) / 16)) * 4))).bind fun t458 => ((lychref1_cut.f l0 (wrap64 ((wrap64 ((rd l0 12) / 16)) * 4)) (l0.length : Int)).bind fun t461 => (some (t450, t451, t452, t453, rd l0 13, t455, t456, t457, t458, t461, 0))))))) else (none)))))))) else (none))) = some (r1, r2, r3, r4, r5, r6, r7, r8, r9, r10, r11) := h
  clear h
  by_cases c2 : (l0.length : Int) < 20
  · rw [if_pos c2] at H
    have c2b0 : decide ((l0.length : Int) < 20) = true := decide_eq_true c2
    have c2b1 : decide (l0.length < 20) = true := decide_eq_true (by omega)
    clear c2
    simp only [Option.some.injEq, Prod.mk.injEq] at H
    obtain ⟨rfl, rfl, rfl, rfl, rfl, rfl, rfl, rfl, rfl, rfl, rfl⟩ := H
    go_enter Try.func27, Try.ntmps27
    go_wp2_with (first | ((with_reducible refine gate_dst (N := 2) rfl ?_); refine box_event ?hg (N := 2) ?hd (cs := #[.int .u16 0, .int .u16 0, .int .u32 0, .int .u32 0, .int .u8 0, .int .u16 0, .int .u16 0, .int .u16 0, .slice none 0 0, .slice none 0 0]) (t := 49) ?hr ?_; (case hd => rfl); (case hg => rfl); (case hr => first | (go_simp; done) | (go_simp; rfl)); intro gb448 hg w3 hbox hb; have n0_ := Aside0.mk (below_step (by repeat (first | (with_reducible first | exact HB.out | apply below_alloc | apply pw_below_drewN | apply below_drew1) | exact HB.out)) hb); have n1_ := Aside0.mk (hbox); have n2_ := Aside0.mk ((by rw [hg]; exact (below_size (by repeat (first | (with_reducible first | exact HB.out | apply below_alloc | apply pw_below_drewN | apply below_drew1) | exact HB.out))) : w.heap.size ≤ gb448)); have n3_ := Aside0.mk ((by rw [hg]; exact (below_size (by repeat (first | (with_reducible first | exact HB.out | apply below_alloc | apply pw_below_drewN | apply below_drew1) | exact HB.out))) : w.heap.size ≤ gb448)); clear HB; have HB := n0_; have BK448 := n1_; have GW448 := n2_; have GE448 := n3_; clear n0_ n1_ n2_ n3_; clear hb hbox hg; have hcz4_0 : w3.cell? ⟨gb448, 0, none⟩ = some (.int .u16 0) := (blk_cell BK448.out 0).trans rfl; have hcz4_1 : w3.cell? ⟨gb448, 1, none⟩ = some (.int .u16 0) := (blk_cell BK448.out 1).trans rfl; have hcz4_2 : w3.cell? ⟨gb448, 2, none⟩ = some (.int .u32 0) := (blk_cell BK448.out 2).trans rfl; have hcz4_3 : w3.cell? ⟨gb448, 3, none⟩ = some (.int .u32 0) := (blk_cell BK448.out 3).trans rfl; have hcz4_4 : w3.cell? ⟨gb448, 4, none⟩ = some (.int .u8 0) := (blk_cell BK448.out 4).trans rfl; have hcz4_5 : w3.cell? ⟨gb448, 5, none⟩ = some (.int .u16 0) := (blk_cell BK448.out 5).trans rfl; have hcz4_6 : w3.cell? ⟨gb448, 6, none⟩ = some (.int .u16 0) := (blk_cell BK448.out 6).trans rfl; have hcz4_7 : w3.cell? ⟨gb448, 7, none⟩ = some (.int .u16 0) := (blk_cell BK448.out 7).trans rfl; have hcz4_8 : w3.cell? ⟨gb448, 8, none⟩ = some (.slice none 0 0) := (blk_cell BK448.out 8).trans rfl; have hcz4_9 : w3.cell? ⟨gb448, 9, none⟩ = some (.slice none 0 0) := (blk_cell BK448.out 9).trans rfl; have hfz4_0 := blk_frozen BK448.out 0; have hfz4_1 := blk_frozen BK448.out 1; have hfz4_2 := blk_frozen BK448.out 2; have hfz4_3 := blk_frozen BK448.out 3; have hfz4_4 := blk_frozen BK448.out 4; have hfz4_5 := blk_frozen BK448.out 5; have hfz4_6 := blk_frozen BK448.out 6; have hfz4_7 := blk_frozen BK448.out 7; have hfz4_8 := blk_frozen BK448.out 8; have hfz4_9 := blk_frozen BK448.out 9))
    refine bodyPost_ret (results_ct rfl _ _ gb448 49 #[.int .u16 0, .int .u16 0, .int .u32 0, .int .u32 0, .int .u8 0, .int .u16 0, .int .u16 0, .int .u16 0, .slice none 0 0, .slice none 0 0] (0, 0) _ rfl (by (with_reducible repeat (first | refine blk_drewN ?_ _ | refine blk_drew ?_ | refine blk_alloc ?_ _)); refine blk_put (cs := #[.int .u16 0, .int .u16 0, .int .u32 0, .int .u32 0, .int .u8 0, .int .u16 0, .int .u16 0, .int .u16 0, .slice none 0 0, .slice none 0 0]) ?_ 9 _ rfl; (with_reducible repeat (first | refine blk_drewN ?_ _ | refine blk_drew ?_ | refine blk_alloc ?_ _)); refine blk_put (cs := #[.int .u16 0, .int .u16 0, .int .u32 0, .int .u32 0, .int .u8 0, .int .u16 0, .int .u16 0, .int .u16 0, .slice none 0 0, .slice none 0 0]) ?_ 8 _ rfl; (with_reducible repeat (first | refine blk_drewN ?_ _ | refine blk_drew ?_ | refine blk_alloc ?_ _)); refine blk_put (cs := #[.int .u16 0, .int .u16 0, .int .u32 0, .int .u32 0, .int .u8 0, .int .u16 0, .int .u16 0, .int .u16 0, .slice none 0 0, .slice none 0 0]) ?_ 7 _ rfl; (with_reducible repeat (first | refine blk_drewN ?_ _ | refine blk_drew ?_ | refine blk_alloc ?_ _)); refine blk_put (cs := #[.int .u16 0, .int .u16 0, .int .u32 0, .int .u32 0, .int .u8 0, .int .u16 0, .int .u16 0, .int .u16 0, .slice none 0 0, .slice none 0 0]) ?_ 6 _ rfl; (with_reducible repeat (first | refine blk_drewN ?_ _ | refine blk_drew ?_ | refine blk_alloc ?_ _)); refine blk_put (cs := #[.int .u16 0, .int .u16 0, .int .u32 0, .int .u32 0, .int .u8 0, .int .u16 0, .int .u16 0, .int .u16 0, .slice none 0 0, .slice none 0 0]) ?_ 5 _ rfl; (with_reducible repeat (first | refine blk_drewN ?_ _ | refine blk_drew ?_ | refine blk_alloc ?_ _)); refine blk_put (cs := #[.int .u16 0, .int .u16 0, .int .u32 0, .int .u32 0, .int .u8 0, .int .u16 0, .int .u16 0, .int .u16 0, .slice none 0 0, .slice none 0 0]) ?_ 4 _ rfl; (with_reducible repeat (first | refine blk_drewN ?_ _ | refine blk_drew ?_ | refine blk_alloc ?_ _)); refine blk_put (cs := #[.int .u16 0, .int .u16 0, .int .u32 0, .int .u32 0, .int .u8 0, .int .u16 0, .int .u16 0, .int .u16 0, .slice none 0 0, .slice none 0 0]) ?_ 3 _ rfl; (with_reducible repeat (first | refine blk_drewN ?_ _ | refine blk_drew ?_ | refine blk_alloc ?_ _)); refine blk_put (cs := #[.int .u16 0, .int .u16 0, .int .u32 0, .int .u32 0, .int .u8 0, .int .u16 0, .int .u16 0, .int .u16 0, .slice none 0 0, .slice none 0 0]) ?_ 2 _ rfl; (with_reducible repeat (first | refine blk_drewN ?_ _ | refine blk_drew ?_ | refine blk_alloc ?_ _)); refine blk_put (cs := #[.int .u16 0, .int .u16 0, .int .u32 0, .int .u32 0, .int .u8 0, .int .u16 0, .int .u16 0, .int .u16 0, .slice none 0 0, .slice none 0 0]) ?_ 1 _ rfl; (with_reducible repeat (first | refine blk_drewN ?_ _ | refine blk_drew ?_ | refine blk_alloc ?_ _)); refine blk_put (cs := #[.int .u16 0, .int .u16 0, .int .u32 0, .int .u32 0, .int .u8 0, .int .u16 0, .int .u16 0, .int .u16 0, .slice none 0 0, .slice none 0 0]) ?_ 0 _ rfl; (with_reducible repeat (first | refine blk_drewN ?_ _ | refine blk_drew ?_ | refine blk_alloc ?_ _)); exact BK448.out) Try.underlying49 rfl (by kernel_rfl)) rfl ?_
    exact ⟨_, _, by first | rfl | (simp [errW_none, errW_some] <;> rfl) | (simp [*, errW_none, errW_some] <;> rfl), by first | exact Kd.R_nil _ _ _ _ _ | exact Kd.N_nil _ _ _ _ _ | exact Kd.V_nil _ _ _ _ _ | exact Kd.Q_nil _ _ _ _ _ | exact Kd.S_nil _ _ _ _ _, by first | exact Kd.R_nil _ _ _ _ _ | exact Kd.N_nil _ _ _ _ _ | exact Kd.V_nil _ _ _ _ _ | exact Kd.Q_nil _ _ _ _ _ | exact Kd.S_nil _ _ _ _ _, by repeat (first | (with_reducible first | exact HB.out | apply below_alloc | apply pw_below_drewN | apply below_drew1 | refine below_set ?_ GE448.out) | exact HB.out)⟩
  · rw [if_neg c2] at H
    have c2b0 : decide ((l0.length : Int) < 20) = false := decide_eq_false c2
    have c2b1 : decide (l0.length < 20) = false := decide_eq_false (by omega)
    clear c2
    by_cases c5 : 12 < (l0.length : Int)
    · rw [if_pos c5] at H
      have c5b0 : decide (12 < (l0.length : Int)) = true := decide_eq_true c5
      have c5b1 : decide (12 < l0.length) = true := decide_eq_true (by omega)
      clear c5
      by_cases c6 : (wrap64 ((wrap64 ((rd l0 12) / 16)) * 4)) < 20
      · rw [if_pos c6] at H
        have c6b0 : decide ((wrap64 ((wrap64 ((rd l0 12) / 16)) * 4)) < 20) = true := decide_eq_true c6
        clear c6
        simp only [Option.some.injEq, Prod.mk.injEq] at H
        obtain ⟨rfl, rfl, rfl, rfl, rfl, rfl, rfl, rfl, rfl, rfl, rfl⟩ := H
        go_enter Try.func27, Try.ntmps27
        go_wp2_with (first | ((with_reducible refine gate_dst (N := 2) rfl ?_); refine box_event ?hg (N := 2) ?hd (cs := #[.int .u16 0, .int .u16 0, .int .u32 0, .int .u32 0, .int .u8 0, .int .u16 0, .int .u16 0, .int .u16 0, .slice none 0 0, .slice none 0 0]) (t := 49) ?hr ?_; (case hd => rfl); (case hg => rfl); (case hr => first | (go_simp; done) | (go_simp; rfl)); intro gb448 hg w7 hbox hb; have n0_ := Aside0.mk (below_step (by repeat (first | (with_reducible first | exact HB.out | apply below_alloc | apply pw_below_drewN | apply below_drew1) | exact HB.out)) hb); have n1_ := Aside0.mk (hbox); have n2_ := Aside0.mk ((by rw [hg]; exact (below_size (by repeat (first | (with_reducible first | exact HB.out | apply below_alloc | apply pw_below_drewN | apply below_drew1) | exact HB.out))) : w.heap.size ≤ gb448)); have n3_ := Aside0.mk ((by rw [hg]; exact (below_size (by repeat (first | (with_reducible first | exact HB.out | apply below_alloc | apply pw_below_drewN | apply below_drew1) | exact HB.out))) : w.heap.size ≤ gb448)); clear HB; have HB := n0_; have BK448 := n1_; have GW448 := n2_; have GE448 := n3_; clear n0_ n1_ n2_ n3_; clear hb hbox hg; have p449 : 0 ≤ (12 : Int) := (by omega); have q449 : 12 < (l0.length : Int) := of_decide_eq_true (by first | (with_reducible assumption) | assumption); obtain ⟨ad449, e449, hx449_0⟩ := Kd.at_int HR0.out 12 p449 q449; cases e449; (try simp only [show (12 : Int).toNat = 12 from rfl, Nat.reduceMul, Nat.reduceEqDiff, Go.Addr.add, ↓reduceIte] at hx449_0); have qi449 : (12 < l0.length) = True := eq_true (by omega); (try rw [show ((12 : Int)).toNat = 12 from rfl] at hx449_0); replace hx449_0 := (HB.out.cell (World.block_lt_of_cell? w _ hx449_0)).trans hx449_0; replace p449 := eq_true p449; replace q449 := eq_true q449; have hcz8_0 : w7.cell? ⟨gb448, 0, none⟩ = some (.int .u16 0) := (blk_cell BK448.out 0).trans rfl; have hcz8_1 : w7.cell? ⟨gb448, 1, none⟩ = some (.int .u16 0) := (blk_cell BK448.out 1).trans rfl; have hcz8_2 : w7.cell? ⟨gb448, 2, none⟩ = some (.int .u32 0) := (blk_cell BK448.out 2).trans rfl; have hcz8_3 : w7.cell? ⟨gb448, 3, none⟩ = some (.int .u32 0) := (blk_cell BK448.out 3).trans rfl; have hcz8_4 : w7.cell? ⟨gb448, 4, none⟩ = some (.int .u8 0) := (blk_cell BK448.out 4).trans rfl; have hcz8_5 : w7.cell? ⟨gb448, 5, none⟩ = some (.int .u16 0) := (blk_cell BK448.out 5).trans rfl; have hcz8_6 : w7.cell? ⟨gb448, 6, none⟩ = some (.int .u16 0) := (blk_cell BK448.out 6).trans rfl; have hcz8_7 : w7.cell? ⟨gb448, 7, none⟩ = some (.int .u16 0) := (blk_cell BK448.out 7).trans rfl; have hcz8_8 : w7.cell? ⟨gb448, 8, none⟩ = some (.slice none 0 0) := (blk_cell BK448.out 8).trans rfl; have hcz8_9 : w7.cell? ⟨gb448, 9, none⟩ = some (.slice none 0 0) := (blk_cell BK448.out 9).trans rfl; have hfz8_0 := blk_frozen BK448.out 0; have hfz8_1 := blk_frozen BK448.out 1; have hfz8_2 := blk_frozen BK448.out 2; have hfz8_3 := blk_frozen BK448.out 3; have hfz8_4 := blk_frozen BK448.out 4; have hfz8_5 := blk_frozen BK448.out 5; have hfz8_6 := blk_frozen BK448.out 6; have hfz8_7 := blk_frozen BK448.out 7; have hfz8_8 := blk_frozen BK448.out 8; have hfz8_9 := blk_frozen BK448.out 9))
        refine bodyPost_ret (results_ct rfl _ _ gb448 49 #[.int .u16 0, .int .u16 0, .int .u32 0, .int .u32 0, .int .u8 0, .int .u16 0, .int .u16 0, .int .u16 0, .slice none 0 0, .slice none 0 0] (0, 0) _ rfl (by (with_reducible repeat (first | refine blk_drewN ?_ _ | refine blk_drew ?_ | refine blk_alloc ?_ _)); refine blk_put (cs := #[.int .u16 0, .int .u16 0, .int .u32 0, .int .u32 0, .int .u8 0, .int .u16 0, .int .u16 0, .int .u16 0, .slice none 0 0, .slice none 0 0]) ?_ 9 _ rfl; (with_reducible repeat (first | refine blk_drewN ?_ _ | refine blk_drew ?_ | refine blk_alloc ?_ _)); refine blk_put (cs := #[.int .u16 0, .int .u16 0, .int .u32 0, .int .u32 0, .int .u8 0, .int .u16 0, .int .u16 0, .int .u16 0, .slice none 0 0, .slice none 0 0]) ?_ 8 _ rfl; (with_reducible repeat (first | refine blk_drewN ?_ _ | refine blk_drew ?_ | refine blk_alloc ?_ _)); refine blk_put (cs := #[.int .u16 0, .int .u16 0, .int .u32 0, .int .u32 0, .int .u8 0, .int .u16 0, .int .u16 0, .int .u16 0, .slice none 0 0, .slice none 0 0]) ?_ 7 _ rfl; (with_reducible repeat (first | refine blk_drewN ?_ _ | refine blk_drew ?_ | refine blk_alloc ?_ _)); refine blk_put (cs := #[.int .u16 0, .int .u16 0, .int .u32 0, .int .u32 0, .int .u8 0, .int .u16 0, .int .u16 0, .int .u16 0, .slice none 0 0, .slice none 0 0]) ?_ 6 _ rfl; (with_reducible repeat (first | refine blk_drewN ?_ _ | refine blk_drew ?_ | refine blk_alloc ?_ _)); refine blk_put (cs := #[.int .u16 0, .int .u16 0, .int .u32 0, .int .u32 0, .int .u8 0, .int .u16 0, .int .u16 0, .int .u16 0, .slice none 0 0, .slice none 0 0]) ?_ 5 _ rfl; (with_reducible repeat (first | refine blk_drewN ?_ _ | refine blk_drew ?_ | refine blk_alloc ?_ _)); refine blk_put (cs := #[.int .u16 0, .int .u16 0, .int .u32 0, .int .u32 0, .int .u8 0, .int .u16 0, .int .u16 0, .int .u16 0, .slice none 0 0, .slice none 0 0]) ?_ 4 _ rfl; (with_reducible repeat (first | refine blk_drewN ?_ _ | refine blk_drew ?_ | refine blk_alloc ?_ _)); refine blk_put (cs := #[.int .u16 0, .int .u16 0, .int .u32 0, .int .u32 0, .int .u8 0, .int .u16 0, .int .u16 0, .int .u16 0, .slice none 0 0, .slice none 0 0]) ?_ 3 _ rfl; (with_reducible repeat (first | refine blk_drewN ?_ _ | refine blk_drew ?_ | refine blk_alloc ?_ _)); refine blk_put (cs := #[.int .u16 0, .int .u16 0, .int .u32 0, .int .u32 0, .int .u8 0, .int .u16 0, .int .u16 0, .int .u16 0, .slice none 0 0, .slice none 0 0]) ?_ 2 _ rfl; (with_reducible repeat (first | refine blk_drewN ?_ _ | refine blk_drew ?_ | refine blk_alloc ?_ _)); refine blk_put (cs := #[.int .u16 0, .int .u16 0, .int .u32 0, .int .u32 0, .int .u8 0, .int .u16 0, .int .u16 0, .int .u16 0, .slice none 0 0, .slice none 0 0]) ?_ 1 _ rfl; (with_reducible repeat (first | refine blk_drewN ?_ _ | refine blk_drew ?_ | refine blk_alloc ?_ _)); refine blk_put (cs := #[.int .u16 0, .int .u16 0, .int .u32 0, .int .u32 0, .int .u8 0, .int .u16 0, .int .u16 0, .int .u16 0, .slice none 0 0, .slice none 0 0]) ?_ 0 _ rfl; (with_reducible repeat (first | refine blk_drewN ?_ _ | refine blk_drew ?_ | refine blk_alloc ?_ _)); exact BK448.out) Try.underlying49 rfl (by kernel_rfl)) rfl ?_
        exact ⟨_, _, by first | rfl | (simp [errW_none, errW_some] <;> rfl) | (simp [*, errW_none, errW_some] <;> rfl), by first | exact Kd.R_nil _ _ _ _ _ | exact Kd.N_nil _ _ _ _ _ | exact Kd.V_nil _ _ _ _ _ | exact Kd.Q_nil _ _ _ _ _ | exact Kd.S_nil _ _ _ _ _, by first | exact Kd.R_nil _ _ _ _ _ | exact Kd.N_nil _ _ _ _ _ | exact Kd.V_nil _ _ _ _ _ | exact Kd.Q_nil _ _ _ _ _ | exact Kd.S_nil _ _ _ _ _, by repeat (first | (with_reducible first | exact HB.out | apply below_alloc | apply pw_below_drewN | apply below_drew1 | refine below_set ?_ GE448.out) | exact HB.out)⟩
      · rw [if_neg c6] at H
        have c6b0 : decide ((wrap64 ((wrap64 ((rd l0 12) / 16)) * 4)) < 20) = false := decide_eq_false c6
        clear c6
        by_cases c9 : (l0.length : Int) < (wrap64 ((wrap64 ((rd l0 12) / 16)) * 4))
        · rw [if_pos c9] at H
          have c9b0 : decide ((l0.length : Int) < (wrap64 ((wrap64 ((rd l0 12) / 16)) * 4))) = true := decide_eq_true c9
          clear c9
          simp only [Option.some.injEq, Prod.mk.injEq] at H
          obtain ⟨rfl, rfl, rfl, rfl, rfl, rfl, rfl, rfl, rfl, rfl, rfl⟩ := H
          go_enter Try.func27, Try.ntmps27
          go_wp2_with (first | ((with_reducible refine gate_dst (N := 2) rfl ?_); refine box_event ?hg (N := 2) ?hd (cs := #[.int .u16 0, .int .u16 0, .int .u32 0, .int .u32 0, .int .u8 0, .int .u16 0, .int .u16 0, .int .u16 0, .slice none 0 0, .slice none 0 0]) (t := 49) ?hr ?_; (case hd => rfl); (case hg => rfl); (case hr => first | (go_simp; done) | (go_simp; rfl)); intro gb448 hg w10 hbox hb; have n0_ := Aside0.mk (below_step (by repeat (first | (with_reducible first | exact HB.out | apply below_alloc | apply pw_below_drewN | apply below_drew1) | exact HB.out)) hb); have n1_ := Aside0.mk (hbox); have n2_ := Aside0.mk ((by rw [hg]; exact (below_size (by repeat (first | (with_reducible first | exact HB.out | apply below_alloc | apply pw_below_drewN | apply below_drew1) | exact HB.out))) : w.heap.size ≤ gb448)); have n3_ := Aside0.mk ((by rw [hg]; exact (below_size (by repeat (first | (with_reducible first | exact HB.out | apply below_alloc | apply pw_below_drewN | apply below_drew1) | exact HB.out))) : w.heap.size ≤ gb448)); clear HB; have HB := n0_; have BK448 := n1_; have GW448 := n2_; have GE448 := n3_; clear n0_ n1_ n2_ n3_; clear hb hbox hg; have p449 : 0 ≤ (12 : Int) := (by omega); have q449 : 12 < (l0.length : Int) := of_decide_eq_true (by first | (with_reducible assumption) | assumption); obtain ⟨ad449, e449, hx449_0⟩ := Kd.at_int HR0.out 12 p449 q449; cases e449; (try simp only [show (12 : Int).toNat = 12 from rfl, Nat.reduceMul, Nat.reduceEqDiff, Go.Addr.add, ↓reduceIte] at hx449_0); have qi449 : (12 < l0.length) = True := eq_true (by omega); (try rw [show ((12 : Int)).toNat = 12 from rfl] at hx449_0); replace hx449_0 := (HB.out.cell (World.block_lt_of_cell? w _ hx449_0)).trans hx449_0; replace p449 := eq_true p449; replace q449 := eq_true q449; have hcz11_0 : w10.cell? ⟨gb448, 0, none⟩ = some (.int .u16 0) := (blk_cell BK448.out 0).trans rfl; have hcz11_1 : w10.cell? ⟨gb448, 1, none⟩ = some (.int .u16 0) := (blk_cell BK448.out 1).trans rfl; have hcz11_2 : w10.cell? ⟨gb448, 2, none⟩ = some (.int .u32 0) := (blk_cell BK448.out 2).trans rfl; have hcz11_3 : w10.cell? ⟨gb448, 3, none⟩ = some (.int .u32 0) := (blk_cell BK448.out 3).trans rfl; have hcz11_4 : w10.cell? ⟨gb448, 4, none⟩ = some (.int .u8 0) := (blk_cell BK448.out 4).trans rfl; have hcz11_5 : w10.cell? ⟨gb448, 5, none⟩ = some (.int .u16 0) := (blk_cell BK448.out 5).trans rfl; have hcz11_6 : w10.cell? ⟨gb448, 6, none⟩ = some (.int .u16 0) := (blk_cell BK448.out 6).trans rfl; have hcz11_7 : w10.cell? ⟨gb448, 7, none⟩ = some (.int .u16 0) := (blk_cell BK448.out 7).trans rfl; have hcz11_8 : w10.cell? ⟨gb448, 8, none⟩ = some (.slice none 0 0) := (blk_cell BK448.out 8).trans rfl; have hcz11_9 : w10.cell? ⟨gb448, 9, none⟩ = some (.slice none 0 0) := (blk_cell BK448.out 9).trans rfl; have hfz11_0 := blk_frozen BK448.out 0; have hfz11_1 := blk_frozen BK448.out 1; have hfz11_2 := blk_frozen BK448.out 2; have hfz11_3 := blk_frozen BK448.out 3; have hfz11_4 := blk_frozen BK448.out 4; have hfz11_5 := blk_frozen BK448.out 5; have hfz11_6 := blk_frozen BK448.out 6; have hfz11_7 := blk_frozen BK448.out 7; have hfz11_8 := blk_frozen BK448.out 8; have hfz11_9 := blk_frozen BK448.out 9))
          refine bodyPost_ret (results_ct rfl _ _ gb448 49 #[.int .u16 0, .int .u16 0, .int .u32 0, .int .u32 0, .int .u8 0, .int .u16 0, .int .u16 0, .int .u16 0, .slice none 0 0, .slice none 0 0] (0, 0) _ rfl (by (with_reducible repeat (first | refine blk_drewN ?_ _ | refine blk_drew ?_ | refine blk_alloc ?_ _)); refine blk_put (cs := #[.int .u16 0, .int .u16 0, .int .u32 0, .int .u32 0, .int .u8 0, .int .u16 0, .int .u16 0, .int .u16 0, .slice none 0 0, .slice none 0 0]) ?_ 9 _ rfl; (with_reducible repeat (first | refine blk_drewN ?_ _ | refine blk_drew ?_ | refine blk_alloc ?_ _)); refine blk_put (cs := #[.int .u16 0, .int .u16 0, .int .u32 0, .int .u32 0, .int .u8 0, .int .u16 0, .int .u16 0, .int .u16 0, .slice none 0 0, .slice none 0 0]) ?_ 8 _ rfl; (with_reducible repeat (first | refine blk_drewN ?_ _ | refine blk_drew ?_ | refine blk_alloc ?_ _)); refine blk_put (cs := #[.int .u16 0, .int .u16 0, .int .u32 0, .int .u32 0, .int .u8 0, .int .u16 0, .int .u16 0, .int .u16 0, .slice none 0 0, .slice none 0 0]) ?_ 7 _ rfl; (with_reducible repeat (first | refine blk_drewN ?_ _ | refine blk_drew ?_ | refine blk_alloc ?_ _)); refine blk_put (cs := #[.int .u16 0, .int .u16 0, .int .u32 0, .int .u32 0, .int .u8 0, .int .u16 0, .int .u16 0, .int .u16 0, .slice none 0 0, .slice none 0 0]) ?_ 6 _ rfl; (with_reducible repeat (first | refine blk_drewN ?_ _ | refine blk_drew ?_ | refine blk_alloc ?_ _)); refine blk_put (cs := #[.int .u16 0, .int .u16 0, .int .u32 0, .int .u32 0, .int .u8 0, .int .u16 0, .int .u16 0, .int .u16 0, .slice none 0 0, .slice none 0 0]) ?_ 5 _ rfl; (with_reducible repeat (first | refine blk_drewN ?_ _ | refine blk_drew ?_ | refine blk_alloc ?_ _)); refine blk_put (cs := #[.int .u16 0, .int .u16 0, .int .u32 0, .int .u32 0, .int .u8 0, .int .u16 0, .int .u16 0, .int .u16 0, .slice none 0 0, .slice none 0 0]) ?_ 4 _ rfl; (with_reducible repeat (first | refine blk_drewN ?_ _ | refine blk_drew ?_ | refine blk_alloc ?_ _)); refine blk_put (cs := #[.int .u16 0, .int .u16 0, .int .u32 0, .int .u32 0, .int .u8 0, .int .u16 0, .int .u16 0, .int .u16 0, .slice none 0 0, .slice none 0 0]) ?_ 3 _ rfl; (with_reducible repeat (first | refine blk_drewN ?_ _ | refine blk_drew ?_ | refine blk_alloc ?_ _)); refine blk_put (cs := #[.int .u16 0, .int .u16 0, .int .u32 0, .int .u32 0, .int .u8 0, .int .u16 0, .int .u16 0, .int .u16 0, .slice none 0 0, .slice none 0 0]) ?_ 2 _ rfl; (with_reducible repeat (first | refine blk_drewN ?_ _ | refine blk_drew ?_ | refine blk_alloc ?_ _)); refine blk_put (cs := #[.int .u16 0, .int .u16 0, .int .u32 0, .int .u32 0, .int .u8 0, .int .u16 0, .int .u16 0, .int .u16 0, .slice none 0 0, .slice none 0 0]) ?_ 1 _ rfl; (with_reducible repeat (first | refine blk_drewN ?_ _ | refine blk_drew ?_ | refine blk_alloc ?_ _)); refine blk_put (cs := #[.int .u16 0, .int .u16 0, .int .u32 0, .int .u32 0, .int .u8 0, .int .u16 0, .int .u16 0, .int .u16 0, .slice none 0 0, .slice none 0 0]) ?_ 0 _ rfl; (with_reducible repeat (first | refine blk_drewN ?_ _ | refine blk_drew ?_ | refine blk_alloc ?_ _)); exact BK448.out) Try.underlying49 rfl (by kernel_rfl)) rfl ?_
          exact ⟨_, _, by first | rfl | (simp [errW_none, errW_some] <;> rfl) | (simp [*, errW_none, errW_some] <;> rfl), by first | exact Kd.R_nil _ _ _ _ _ | exact Kd.N_nil _ _ _ _ _ | exact Kd.V_nil _ _ _ _ _ | exact Kd.Q_nil _ _ _ _ _ | exact Kd.S_nil _ _ _ _ _, by first | exact Kd.R_nil _ _ _ _ _ | exact Kd.N_nil _ _ _ _ _ | exact Kd.V_nil _ _ _ _ _ | exact Kd.Q_nil _ _ _ _ _ | exact Kd.S_nil _ _ _ _ _, by repeat (first | (with_reducible first | exact HB.out | apply below_alloc | apply pw_below_drewN | apply below_drew1 | refine below_set ?_ GE448.out) | exact HB.out)⟩
        · rw [if_neg c9] at H
          have c9b0 : decide ((l0.length : Int) < (wrap64 ((wrap64 ((rd l0 12) / 16)) * 4))) = false := decide_eq_false c9
          clear c9
          replace H := Option.bind_eq_some_iff.mp H
          obtain ⟨t450, A120, H⟩ := H
          replace H : ((lychref1_Get16.f l0 2).bind fun t451 => ((lychref1_Get32.f l0 4).bind fun t452 => ((lychref1_Get32.f l0 8).bind fun t453 => (if 13 < (l0.length : Int) then ((lychref1_Get16.f l0 14).bind fun t455 => ((lychref1_Get16.f l0 16).bind fun t456 => ((lychref1_Get16.f l0 18).bind fun t457 => ((lychref1_cut.f l0 20 (wrap64 ((wrap64 ((rd l0 12) / 16)) * 4))).bind fun t458 => ((lychref1_cut.f l0 (wrap64 ((wrap64 ((rd l0 12) / 16)) * 4)) (l0.length : Int)).bind fun t461 => (some (t450, t451, t452, t453, rd l0 13, t455, t456, t457, t458, t461, 0))))))) else (none))))) = some (r1, r2, r3, r4, r5, r6, r7, r8, r9, r10, r11) := H
          have A12 := Aside0.mk A120
          clear A120
          replace H := Option.bind_eq_some_iff.mp H
          obtain ⟨t451, A130, H⟩ := H
          replace H : ((lychref1_Get32.f l0 4).bind fun t452 => ((lychref1_Get32.f l0 8).bind fun t453 => (if 13 < (l0.length : Int) then ((lychref1_Get16.f l0 14).bind fun t455 => ((lychref1_Get16.f l0 16).bind fun t456 => ((lychref1_Get16.f l0 18).bind fun t457 => ((lychref1_cut.f l0 20 (wrap64 ((wrap64 ((rd l0 12) / 16)) * 4))).bind fun t458 => ((lychref1_cut.f l0 (wrap64 ((wrap64 ((rd l0 12) / 16)) * 4)) (l0.length : Int)).bind fun t461 => (some (t450, t451, t452, t453, rd l0 13, t455, t456, t457, t458, t461, 0))))))) else (none)))) = some (r1, r2, r3, r4, r5, r6, r7, r8, r9, r10, r11) := H
          have A13 := Aside0.mk A130
          clear A130
          replace H := Option.bind_eq_some_iff.mp H
          obtain ⟨t452, A140, H⟩ := H
          replace H : ((lychref1_Get32.f l0 8).bind fun t453 => (if 13 < (l0.length : Int) then ((lychref1_Get16.f l0 14).bind fun t455 => ((lychref1_Get16.f l0 16).bind fun t456 => ((lychref1_Get16.f l0 18).bind fun t457 => ((lychref1_cut.f l0 20 (wrap64 ((wrap64 ((rd l0 12) / 16)) * 4))).bind fun t458 => ((lychref1_cut.f l0 (wrap64 ((wrap64 ((rd l0 12) / 16)) * 4)) (l0.length : Int)).bind fun t461 => (some (t450, t451, t452, t453, rd l0 13, t455, t456, t457, t458, t461, 0))))))) else (none))) = some (r1, r2, r3, r4, r5, r6, r7, r8, r9, r10, r11) := H
          have A14 := Aside0.mk A140
          clear A140
          replace H := Option.bind_eq_some_iff.mp H
          obtain ⟨t453, A150, H⟩ := H
          replace H : (if 13 < (l0.length : Int) then ((lychref1_Get16.f l0 14).bind fun t455 => ((lychref1_Get16.f l0 16).bind fun t456 => ((lychref1_Get16.f l0 18).bind fun t457 => ((lychref1_cut.f l0 20 (wrap64 ((wrap64 ((rd l0 12) / 16)) * 4))).bind fun t458 => ((lychref1_cut.f l0 (wrap64 ((wrap64 ((rd l0 12) / 16)) * 4)) (l0.length : Int)).bind fun t461 => (some (t450, t451, t452, t453, rd l0 13, t455, t456, t457, t458, t461, 0))))))) else (none)) = some (r1, r2, r3, r4, r5, r6, r7, r8, r9, r10, r11) := H
          have A15 := Aside0.mk A150
          clear A150
          by_cases c16 : 13 < (l0.length : Int)
          · rw [if_pos c16] at H
            have c16b0 : decide (13 < (l0.length : Int)) = true := decide_eq_true c16
            have c16b1 : decide (13 < l0.length) = true := decide_eq_true (by omega)
            clear c16
            replace H := Option.bind_eq_some_iff.mp H
            obtain ⟨t455, A170, H⟩ := H
            replace H : ((lychref1_Get16.f l0 16).bind fun t456 => ((lychref1_Get16.f l0 18).bind fun t457 => ((lychref1_cut.f l0 20 (wrap64 ((wrap64 ((rd l0 12) / 16)) * 4))).bind fun t458 => ((lychref1_cut.f l0 (wrap64 ((wrap64 ((rd l0 12) / 16)) * 4)) (l0.length : Int)).bind fun t461 => (some (t450, t451, t452, t453, rd l0 13, t455, t456, t457, t458, t461, 0)))))) = some (r1, r2, r3, r4, r5, r6, r7, r8, r9, r10, r11) := H
            have A17 := Aside0.mk A170
            clear A170
            replace H := Option.bind_eq_some_iff.mp H
            obtain ⟨t456, A180, H⟩ := H
            replace H : ((lychref1_Get16.f l0 18).bind fun t457 => ((lychref1_cut.f l0 20 (wrap64 ((wrap64 ((rd l0 12) / 16)) * 4))).bind fun t458 => ((lychref1_cut.f l0 (wrap64 ((wrap64 ((rd l0 12) / 16)) * 4)) (l0.length : Int)).bind fun t461 => (some (t450, t451, t452, t453, rd l0 13, t455, t456, t457, t458, t461, 0))))) = some (r1, r2, r3, r4, r5, r6, r7, r8, r9, r10, r11) := H
            have A18 := Aside0.mk A180
            clear A180
            replace H := Option.bind_eq_some_iff.mp H
            obtain ⟨t457, A190, H⟩ := H
            replace H : ((lychref1_cut.f l0 20 (wrap64 ((wrap64 ((rd l0 12) / 16)) * 4))).bind fun t458 => ((lychref1_cut.f l0 (wrap64 ((wrap64 ((rd l0 12) / 16)) * 4)) (l0.length : Int)).bind fun t461 => (some (t450, t451, t452, t453, rd l0 13, t455, t456, t457, t458, t461, 0)))) = some (r1, r2, r3, r4, r5, r6, r7, r8, r9, r10, r11) := H
            have A19 := Aside0.mk A190
            clear A190
            replace H := Option.bind_eq_some_iff.mp H
            obtain ⟨t458, A200, H⟩ := H
            replace H : ((lychref1_cut.f l0 (wrap64 ((wrap64 ((rd l0 12) / 16)) * 4)) (l0.length : Int)).bind fun t461 => (some (t450, t451, t452, t453, rd l0 13, t455, t456, t457, t458, t461, 0))) = some (r1, r2, r3, r4, r5, r6, r7, r8, r9, r10, r11) := H
            have A20 := Aside0.mk A200
            clear A200
            replace H := Option.bind_eq_some_iff.mp H
            obtain ⟨t461, A210, H⟩ := H
            replace H : (some (t450, t451, t452, t453, rd l0 13, t455, t456, t457, t458, t461, 0)) = some (r1, r2, r3, r4, r5, r6, r7, r8, r9, r10, r11) := H
            have A21 := Aside0.mk A210
            clear A210
            simp only [Option.some.injEq, Prod.mk.injEq] at H
            obtain ⟨rfl, rfl, rfl, rfl, rfl, rfl, rfl, rfl, rfl, rfl, rfl⟩ := H
            go_enter Try.func27, Try.ntmps27
            try go_wp2_with (first | ((with_reducible refine gate_dst (N := 2) rfl ?_); refine box_event ?hg (N := 2) ?hd (cs := #[.int .u16 0, .int .u16 0, .int .u32 0, .int .u32 0, .int .u8 0, .int .u16 0, .int .u16 0, .int .u16 0, .slice none 0 0, .slice none 0 0]) (t := 49) ?hr ?_; (case hd => rfl); (case hg => rfl); (case hr => first | (go_simp; done) | (go_simp; rfl)); intro gb448 hg w22 hbox hb; have n0_ := Aside0.mk (below_step (by repeat (first | (with_reducible first | exact HB.out | apply below_alloc | apply pw_below_drewN | apply below_drew1) | exact HB.out)) hb); have n1_ := Aside0.mk (hbox); have n2_ := Aside0.mk ((by rw [hg]; exact (below_size (by repeat (first | (with_reducible first | exact HB.out | apply below_alloc | apply pw_below_drewN | apply below_drew1) | exact HB.out))) : w.heap.size ≤ gb448)); have n3_ := Aside0.mk ((by rw [hg]; exact (below_size (by repeat (first | (with_reducible first | exact HB.out | apply below_alloc | apply pw_below_drewN | apply below_drew1) | exact HB.out))) : w.heap.size ≤ gb448)); clear HB; have HB := n0_; have BK448 := n1_; have GW448 := n2_; have GE448 := n3_; clear n0_ n1_ n2_ n3_; clear hb hbox hg; have p449 : 0 ≤ (12 : Int) := (by omega); have q449 : 12 < (l0.length : Int) := of_decide_eq_true (by first | (with_reducible assumption) | assumption); obtain ⟨ad449, e449, hx449_0⟩ := Kd.at_int HR0.out 12 p449 q449; cases e449; (try simp only [show (12 : Int).toNat = 12 from rfl, Nat.reduceMul, Nat.reduceEqDiff, Go.Addr.add, ↓reduceIte] at hx449_0); have qi449 : (12 < l0.length) = True := eq_true (by omega); (try rw [show ((12 : Int)).toNat = 12 from rfl] at hx449_0); replace hx449_0 := (HB.out.cell (World.block_lt_of_cell? w _ hx449_0)).trans hx449_0; replace p449 := eq_true p449; replace q449 := eq_true q449))
            have n0_ := Aside0.mk (blk_drew BK448.out)
            have n1_ := Aside0.mk (below_drew1 HB.out)
            clear BK448
            clear HB
            have BK448 := n0_
            have HB := n1_
            clear n0_ n1_
            have p454 : 0 ≤ (13 : Int) := (by omega)
            have q454 : 13 < (l0.length : Int) := of_decide_eq_true (by first | (with_reducible assumption) | assumption)
            obtain ⟨ad454, e454, hx454_0⟩ := Kd.at_int HR0.out 13 p454 q454
            have hw454_0 := hx454_0
            (try rw [show ((13 : Int)).toNat = 13 from rfl] at hw454_0)
            (try rw [show 13 * 1 = 13 from rfl] at hw454_0)
            (try simp only [Nat.reduceMul, Nat.reduceEqDiff, Go.Addr.add, ↓reduceIte] at hw454_0)
            obtain rfl : ad449 = ad454 := (by injection e454)
            (try simp only [show (13 : Int).toNat = 13 from rfl, Nat.reduceMul, Nat.reduceEqDiff, Go.Addr.add, ↓reduceIte] at hx454_0)
            have qi454 : (13 < l0.length) = True := eq_true (by omega)
            (try rw [show ((13 : Int)).toNat = 13 from rfl] at hx454_0)
            replace hx454_0 := (HB.out.cell (World.block_lt_of_cell? w _ hx454_0)).trans hx454_0
            replace p454 := eq_true p454
            replace q454 := eq_true q454
            refine start_ (n := 28) (S := fun w' => w'.cell? ⟨ad449.block, ad449.off + 13, none⟩ = some (.int .u8 (rd l0 13))) (ds := []) #[false, false, false, false, false, false, false, false, false, false, false, false, false, false, false, false, false, false, false, false, false, false, false, false, false, false, false, false] (by kernel_rfl) rfl rfl (((HB.out.cell (World.block_lt_of_cell? w _ hw454_0)).trans hw454_0)) (fun hHeld => ?_); refine with_tabW lychref1_Tcp.tab8 lychref1_Tcp.bits8 (fun HT_ HW_ => ?_)
            generalize w22.drew = w23 at BK448 HB hx454_0 hHeld ⊢
            refine pure_ (i := 0) (N := some 23) (v := ?_) (a' := ?_) #[true, false, false, false, false, false, false, false, false, false, false, false, false, false, false, false, false, false, false, false, false, false, false, false, false, false, false, false] rfl rfl (any_of HT_.out (by kernel_rfl)) (fun _ _ _ h => h) (Or.inl ⟨by rfl, ?_⟩) ?_ ?_
            rotate_left
            · intro w'
              go_simp
              with_reducible rfl
            rotate_left
            · simp only [Act.put, List.setIfInBounds_toArray, List.set_cons_zero, List.set_cons_succ, i64_w, i32_w]
              rfl
            refine pure_ (i := 2) (N := some 25) (v := ?_) (a' := ?_) #[true, false, true, false, false, false, false, false, false, false, false, false, false, false, false, false, false, false, false, false, false, false, false, false, false, false, false, false] rfl rfl (any_of HT_.out (by kernel_rfl)) (fun _ _ _ h => h) (Or.inl ⟨by rfl, ?_⟩) ?_ ?_
            rotate_left
            · intro w'
              go_simp
              with_reducible rfl
            rotate_left
            · simp only [Act.put, List.setIfInBounds_toArray, List.set_cons_zero, List.set_cons_succ, i64_w, i32_w]
              rfl
            refine pure_ (i := 4) (N := some 27) (v := ?_) (a' := ?_) #[true, false, true, false, true, false, false, false, false, false, false, false, false, false, false, false, false, false, false, false, false, false, false, false, false, false, false, false] rfl rfl (any_of HT_.out (by kernel_rfl)) (fun _ _ _ h => h) (Or.inl ⟨by rfl, ?_⟩) ?_ ?_
            rotate_left
            · intro w'
              go_simp
              with_reducible rfl
            rotate_left
            · simp only [Act.put, List.setIfInBounds_toArray, List.set_cons_zero, List.set_cons_succ, i64_w, i32_w]
              rfl
            refine pure_ (i := 6) (N := some 29) (v := ?_) (a' := ?_) #[true, false, true, false, true, false, true, false, false, false, false, false, false, false, false, false, false, false, false, false, false, false, false, false, false, false, false, false] rfl rfl (any_of HT_.out (by kernel_rfl)) (fun _ _ _ h => h) (Or.inl ⟨by rfl, ?_⟩) ?_ ?_
            rotate_left
            · intro w'
              go_simp
              with_reducible rfl
            rotate_left
            · simp only [Act.put, List.setIfInBounds_toArray, List.set_cons_zero, List.set_cons_succ, i64_w, i32_w]
              rfl
            refine pure_ (i := 8) (N := some 31) (v := ?_) (a' := ?_) #[true, false, true, false, true, false, true, false, true, false, false, false, false, false, false, false, false, false, false, false, false, false, false, false, false, false, false, false] rfl rfl (any_of HT_.out (by kernel_rfl)) (fun _ _ _ h => h) (Or.inl ⟨by rfl, ?_⟩) ?_ ?_
            rotate_left
            · intro w'
              go_simp
              with_reducible rfl
            rotate_left
            · simp only [Act.put, List.setIfInBounds_toArray, List.set_cons_zero, List.set_cons_succ, i64_w, i32_w]
              rfl
            refine pure_ (i := 9) (N := some 32) (v := ?_) (a' := ?_) #[true, false, true, false, true, false, true, false, true, true, false, false, false, false, false, false, false, false, false, false, false, false, false, false, false, false, false, false] rfl rfl (any_of HT_.out (by kernel_rfl)) (fun _ _ _ h => h) (Or.inl ⟨by rfl, ?_⟩) ?_ ?_
            rotate_left
            · intro w'
              go_simp
              with_reducible rfl
            rotate_left
            · simp only [Act.put, List.setIfInBounds_toArray, List.set_cons_zero, List.set_cons_succ, i64_w, i32_w]
              rfl
            refine pure_ (i := 11) (N := some 34) (v := ?_) (a' := ?_) #[true, false, true, false, true, false, true, false, true, true, false, true, false, false, false, false, false, false, false, false, false, false, false, false, false, false, false, false] rfl rfl (any_of HT_.out (by kernel_rfl)) (fun _ _ _ h => h) (Or.inl ⟨by rfl, ?_⟩) ?_ ?_
            rotate_left
            · intro w'
              go_simp
              with_reducible rfl
            rotate_left
            · simp only [Act.put, List.setIfInBounds_toArray, List.set_cons_zero, List.set_cons_succ, i64_w, i32_w]
              rfl
            refine pure_ (i := 13) (N := some 36) (v := ?_) (a' := ?_) #[true, false, true, false, true, false, true, false, true, true, false, true, false, true, false, false, false, false, false, false, false, false, false, false, false, false, false, false] rfl rfl (any_of HT_.out (by kernel_rfl)) (fun _ _ _ h => h) (Or.inl ⟨by rfl, ?_⟩) ?_ ?_
            rotate_left
            · intro w'
              go_simp
              with_reducible rfl
            rotate_left
            · simp only [Act.put, List.setIfInBounds_toArray, List.set_cons_zero, List.set_cons_succ, i64_w, i32_w]
              rfl
            refine pure_ (i := 15) (N := some 38) (v := ?_) (a' := ?_) #[true, false, true, false, true, false, true, false, true, true, false, true, false, true, false, true, false, false, false, false, false, false, false, false, false, false, false, false] rfl rfl (any_of HT_.out (by kernel_rfl)) (fun _ _ _ h => h) (Or.inl ⟨by rfl, ?_⟩) ?_ ?_
            rotate_left
            · intro w'
              go_simp
              with_reducible rfl
            rotate_left
            · simp only [Act.put, List.setIfInBounds_toArray, List.set_cons_zero, List.set_cons_succ, i64_w, i32_w]
              rfl
            refine pure_ (i := 17) (N := some 40) (v := ?_) (a' := ?_) #[true, false, true, false, true, false, true, false, true, true, false, true, false, true, false, true, false, true, false, false, false, false, false, false, false, false, false, false] rfl rfl (any_of HT_.out (by kernel_rfl)) (fun _ _ _ h => h) (Or.inl ⟨by rfl, ?_⟩) ?_ ?_
            rotate_left
            · intro w'
              go_simp
              with_reducible rfl
            rotate_left
            · simp only [Act.put, List.setIfInBounds_toArray, List.set_cons_zero, List.set_cons_succ, i64_w, i32_w]
              rfl
            refine pure_ (i := 18) (N := some 41) (v := ?_) (a' := ?_) #[true, false, true, false, true, false, true, false, true, true, false, true, false, true, false, true, false, true, true, false, false, false, false, false, false, false, false, false] rfl rfl (any_of HT_.out (by kernel_rfl)) (fun _ _ _ h => h) (Or.inl ⟨by rfl, ?_⟩) ?_ ?_
            rotate_left
            · intro w'
              go_simp
              with_reducible rfl
            rotate_left
            · simp only [Act.put, List.setIfInBounds_toArray, List.set_cons_zero, List.set_cons_succ, i64_w, i32_w]
              rfl
            refine pure_ (i := 20) (N := some 43) (v := ?_) (a' := ?_) #[true, false, true, false, true, false, true, false, true, true, false, true, false, true, false, true, false, true, true, false, true, false, false, false, false, false, false, false] rfl rfl (any_of HT_.out (by kernel_rfl)) (fun _ _ _ h => h) (Or.inl ⟨by rfl, ?_⟩) ?_ ?_
            rotate_left
            · intro w'
              go_simp
              with_reducible rfl
            rotate_left
            · simp only [Act.put, List.setIfInBounds_toArray, List.set_cons_zero, List.set_cons_succ, i64_w, i32_w]
              rfl
            refine pure_ (i := 21) (N := some 44) (v := ?_) (a' := ?_) #[true, false, true, false, true, false, true, false, true, true, false, true, false, true, false, true, false, true, true, false, true, true, false, false, false, false, false, false] rfl rfl (any_of HT_.out (by kernel_rfl)) (fun _ _ _ h => h) (Or.inl ⟨by rfl, ?_⟩) ?_ ?_
            rotate_left
            · intro w'
              go_simp
              with_reducible rfl
            rotate_left
            · simp only [Act.put, List.setIfInBounds_toArray, List.set_cons_zero, List.set_cons_succ, i64_w, i32_w]
              rfl
            refine pure_ (i := 22) (N := some 45) (v := ?_) (a' := ?_) #[true, false, true, false, true, false, true, false, true, true, false, true, false, true, false, true, false, true, true, false, true, true, true, false, false, false, false, false] rfl rfl (any_of HT_.out (by kernel_rfl)) (fun _ _ _ h => h) (Or.inl ⟨by rfl, ?_⟩) ?_ ?_
            rotate_left
            · intro w'
              go_simp
              with_reducible rfl
            rotate_left
            · simp only [Act.put, List.setIfInBounds_toArray, List.set_cons_zero, List.set_cons_succ, i64_w, i32_w]
              rfl
            refine pure_ (i := 23) (N := some 46) (v := ?_) (a' := ?_) #[true, false, true, false, true, false, true, false, true, true, false, true, false, true, false, true, false, true, true, false, true, true, true, true, false, false, false, false] rfl rfl (any_of HT_.out (by kernel_rfl)) (fun _ _ _ h => h) (Or.inl ⟨by rfl, ?_⟩) ?_ ?_
            rotate_left
            · intro w'
              go_simp
              with_reducible rfl
            rotate_left
            · simp only [Act.put, List.setIfInBounds_toArray, List.set_cons_zero, List.set_cons_succ, i64_w, i32_w]
              rfl
            refine take_ (i := 10) (N := some 33) (v := ?_) (a' := ?_) #[true, false, true, false, true, false, true, false, true, true, true, true, false, true, false, true, false, true, true, false, true, true, true, true, false, false, false, false] rfl rfl (take_ofW HT_.out HW_.out (by kernel_rfl)) (fun _ _ _ h => h) (Or.inl ⟨by rfl, ?_⟩) hHeld ?_ ?_
            rotate_left
            · intro w' s0
              go_simp
              with_reducible rfl
            rotate_left
            · simp only [Act.put, List.setIfInBounds_toArray, List.set_cons_zero, List.set_cons_succ, i64_w, i32_w]
              rfl
            refine one_ (i := 1) (N := some 24) #[true, true, true, false, true, false, true, false, true, true, true, true, false, true, false, true, false, true, true, false, true, true, true, true, false, false, false, false] rfl rfl (one_of HT_.out (by kernel_rfl)) (by decide) (fun K hK => ?_)
            refine goes_ Try.func33 (by kernel_rfl) rfl #[.slice (some ad449) l0.length c0, .int .i64 0] (by rfl) rfl rfl (by (try simp only [List.map_toArray, List.map_cons, List.map_nil]); first | done | rfl | (simp only [List.length_drop, List.length_take]; rfl) | (go_simp; done) | (simp [Act.eval, IntKind.signed]; done) | (simp [Act.eval, IntKind.signed]; rfl)) ?_
            with_reducible refine (lychref1_Get16.calls _ _ l0 0 t450 _ ?side1 ?side2 A12.out).mono ?_
            (case side1 => repeat (first | exact (Kd.C_below HR0.out HB.out) | (with_reducible refine Kd.C_alloc ?_ _) | (with_reducible refine Kd.C_drewN ?_ _) | (with_reducible refine Kd.C_drew ?_)))
            (case side2 => exact HC0.out)
            rintro e w' ⟨rfl, ⟨nd, rfl⟩⟩
            refine ⟨_, rfl, ?_⟩
            refine hK.out _ _ (((HB.out.cell (World.block_lt_of_cell? w _ hw454_0)).trans hw454_0)) (fun hHeld => ?_)
            clear hK K
            refine norm_ (a' := ?_) ?_ ?_
            rotate_left
            · show Act.put _ (some 24) _ = _
              simp only [Act.put, List.setIfInBounds_toArray, List.set_cons_zero, List.set_cons_succ, i64_w, i32_w]
              rfl
            refine one_ (i := 3) (N := some 26) #[true, true, true, true, true, false, true, false, true, true, true, true, false, true, false, true, false, true, true, false, true, true, true, true, false, false, false, false] rfl rfl (one_of HT_.out (by kernel_rfl)) (by decide) (fun K hK => ?_)
            refine goes_ Try.func33 (by kernel_rfl) rfl #[.slice (some ad449) l0.length c0, .int .i64 2] (by rfl) rfl rfl (by (try simp only [List.map_toArray, List.map_cons, List.map_nil]); first | done | rfl | (simp only [List.length_drop, List.length_take]; rfl) | (go_simp; done) | (simp [Act.eval, IntKind.signed]; done) | (simp [Act.eval, IntKind.signed]; rfl)) ?_
            with_reducible refine (lychref1_Get16.calls _ _ l0 2 t451 _ ?side1 ?side2 A13.out).mono ?_
            (case side1 => repeat (first | exact (Kd.C_below HR0.out (by repeat (first | (with_reducible first | exact HB.out | apply below_alloc | apply pw_below_drewN | apply below_drew1 | refine below_set ?_ GE448.out) | exact HB.out))) | (with_reducible refine Kd.C_alloc ?_ _) | (with_reducible refine Kd.C_drewN ?_ _) | (with_reducible refine Kd.C_drew ?_)))
            (case side2 => exact HC0.out)
            rintro e w' ⟨rfl, ⟨nd, rfl⟩⟩
            refine ⟨_, rfl, ?_⟩
            refine hK.out _ _ (((HB.out.cell (World.block_lt_of_cell? w _ hw454_0)).trans hw454_0)) (fun hHeld => ?_)
            clear hK K
            refine norm_ (a' := ?_) ?_ ?_
            rotate_left
            · show Act.put _ (some 26) _ = _
              simp only [Act.put, List.setIfInBounds_toArray, List.set_cons_zero, List.set_cons_succ, i64_w, i32_w]
              rfl
            refine one_ (i := 5) (N := some 28) #[true, true, true, true, true, true, true, false, true, true, true, true, false, true, false, true, false, true, true, false, true, true, true, true, false, false, false, false] rfl rfl (one_of HT_.out (by kernel_rfl)) (by decide) (fun K hK => ?_)
            refine goes_ Try.func44 (by kernel_rfl) rfl #[.slice (some ad449) l0.length c0, .int .i64 4] (by rfl) rfl rfl (by (try simp only [List.map_toArray, List.map_cons, List.map_nil]); first | done | rfl | (simp only [List.length_drop, List.length_take]; rfl) | (go_simp; done) | (simp [Act.eval, IntKind.signed]; done) | (simp [Act.eval, IntKind.signed]; rfl)) ?_
            with_reducible refine (lychref1_Get32.calls _ _ l0 4 t452 _ ?side1 ?side2 A14.out).mono ?_
            (case side1 => repeat (first | exact (Kd.C_below HR0.out (by repeat (first | (with_reducible first | exact HB.out | apply below_alloc | apply pw_below_drewN | apply below_drew1 | refine below_set ?_ GE448.out) | exact HB.out))) | (with_reducible refine Kd.C_alloc ?_ _) | (with_reducible refine Kd.C_drewN ?_ _) | (with_reducible refine Kd.C_drew ?_)))
            (case side2 => exact HC0.out)
            rintro e w' ⟨rfl, ⟨nd, rfl⟩⟩
            refine ⟨_, rfl, ?_⟩
            refine hK.out _ _ (((HB.out.cell (World.block_lt_of_cell? w _ hw454_0)).trans hw454_0)) (fun hHeld => ?_)
            clear hK K
            refine norm_ (a' := ?_) ?_ ?_
            rotate_left
            · show Act.put _ (some 28) _ = _
              simp only [Act.put, List.setIfInBounds_toArray, List.set_cons_zero, List.set_cons_succ, i64_w, i32_w]
              rfl
            refine one_ (i := 7) (N := some 30) #[true, true, true, true, true, true, true, true, true, true, true, true, false, true, false, true, false, true, true, false, true, true, true, true, false, false, false, false] rfl rfl (one_of HT_.out (by kernel_rfl)) (by decide) (fun K hK => ?_)
            refine goes_ Try.func44 (by kernel_rfl) rfl #[.slice (some ad449) l0.length c0, .int .i64 8] (by rfl) rfl rfl (by (try simp only [List.map_toArray, List.map_cons, List.map_nil]); first | done | rfl | (simp only [List.length_drop, List.length_take]; rfl) | (go_simp; done) | (simp [Act.eval, IntKind.signed]; done) | (simp [Act.eval, IntKind.signed]; rfl)) ?_
            with_reducible refine (lychref1_Get32.calls _ _ l0 8 t453 _ ?side1 ?side2 A15.out).mono ?_
            (case side1 => repeat (first | exact (Kd.C_below HR0.out (by repeat (first | (with_reducible first | exact HB.out | apply below_alloc | apply pw_below_drewN | apply below_drew1 | refine below_set ?_ GE448.out) | exact HB.out))) | (with_reducible refine Kd.C_alloc ?_ _) | (with_reducible refine Kd.C_drewN ?_ _) | (with_reducible refine Kd.C_drew ?_)))
            (case side2 => exact HC0.out)
            rintro e w' ⟨rfl, ⟨nd, rfl⟩⟩
            refine ⟨_, rfl, ?_⟩
            refine hK.out _ _ (((HB.out.cell (World.block_lt_of_cell? w _ hw454_0)).trans hw454_0)) (fun hHeld => ?_)
            clear hK K
            refine norm_ (a' := ?_) ?_ ?_
            rotate_left
            · show Act.put _ (some 30) _ = _
              simp only [Act.put, List.setIfInBounds_toArray, List.set_cons_zero, List.set_cons_succ, i64_w, i32_w]
              rfl
            refine one_ (i := 12) (N := some 35) #[true, true, true, true, true, true, true, true, true, true, true, true, true, true, false, true, false, true, true, false, true, true, true, true, false, false, false, false] rfl rfl (one_of HT_.out (by kernel_rfl)) (by decide) (fun K hK => ?_)
            refine goes_ Try.func33 (by kernel_rfl) rfl #[.slice (some ad449) l0.length c0, .int .i64 14] (by rfl) rfl rfl (by (try simp only [List.map_toArray, List.map_cons, List.map_nil]); first | done | rfl | (simp only [List.length_drop, List.length_take]; rfl) | (go_simp; done) | (simp [Act.eval, IntKind.signed]; done) | (simp [Act.eval, IntKind.signed]; rfl)) ?_
            with_reducible refine (lychref1_Get16.calls _ _ l0 14 t455 _ ?side1 ?side2 A17.out).mono ?_
            (case side1 => repeat (first | exact (Kd.C_below HR0.out (by repeat (first | (with_reducible first | exact HB.out | apply below_alloc | apply pw_below_drewN | apply below_drew1 | refine below_set ?_ GE448.out) | exact HB.out))) | (with_reducible refine Kd.C_alloc ?_ _) | (with_reducible refine Kd.C_drewN ?_ _) | (with_reducible refine Kd.C_drew ?_)))
            (case side2 => exact HC0.out)
            rintro e w' ⟨rfl, ⟨nd, rfl⟩⟩
            refine ⟨_, rfl, ?_⟩
            refine hK.out _ _ (((HB.out.cell (World.block_lt_of_cell? w _ hw454_0)).trans hw454_0)) (fun hHeld => ?_)
            clear hK K
            refine norm_ (a' := ?_) ?_ ?_
            rotate_left
            · show Act.put _ (some 35) _ = _
              simp only [Act.put, List.setIfInBounds_toArray, List.set_cons_zero, List.set_cons_succ, i64_w, i32_w]
              rfl
            refine one_ (i := 14) (N := some 37) #[true, true, true, true, true, true, true, true, true, true, true, true, true, true, true, true, false, true, true, false, true, true, true, true, false, false, false, false] rfl rfl (one_of HT_.out (by kernel_rfl)) (by decide) (fun K hK => ?_)
            refine goes_ Try.func33 (by kernel_rfl) rfl #[.slice (some ad449) l0.length c0, .int .i64 16] (by rfl) rfl rfl (by (try simp only [List.map_toArray, List.map_cons, List.map_nil]); first | done | rfl | (simp only [List.length_drop, List.length_take]; rfl) | (go_simp; done) | (simp [Act.eval, IntKind.signed]; done) | (simp [Act.eval, IntKind.signed]; rfl)) ?_
            with_reducible refine (lychref1_Get16.calls _ _ l0 16 t456 _ ?side1 ?side2 A18.out).mono ?_
            (case side1 => repeat (first | exact (Kd.C_below HR0.out (by repeat (first | (with_reducible first | exact HB.out | apply below_alloc | apply pw_below_drewN | apply below_drew1 | refine below_set ?_ GE448.out) | exact HB.out))) | (with_reducible refine Kd.C_alloc ?_ _) | (with_reducible refine Kd.C_drewN ?_ _) | (with_reducible refine Kd.C_drew ?_)))
            (case side2 => exact HC0.out)
            rintro e w' ⟨rfl, ⟨nd, rfl⟩⟩
            refine ⟨_, rfl, ?_⟩
            refine hK.out _ _ (((HB.out.cell (World.block_lt_of_cell? w _ hw454_0)).trans hw454_0)) (fun hHeld => ?_)
            clear hK K
            refine norm_ (a' := ?_) ?_ ?_
            rotate_left
            · show Act.put _ (some 37) _ = _
              simp only [Act.put, List.setIfInBounds_toArray, List.set_cons_zero, List.set_cons_succ, i64_w, i32_w]
              rfl
            refine one_ (i := 16) (N := some 39) #[true, true, true, true, true, true, true, true, true, true, true, true, true, true, true, true, true, true, true, false, true, true, true, true, false, false, false, false] rfl rfl (one_of HT_.out (by kernel_rfl)) (by decide) (fun K hK => ?_)
            refine goes_ Try.func33 (by kernel_rfl) rfl #[.slice (some ad449) l0.length c0, .int .i64 18] (by rfl) rfl rfl (by (try simp only [List.map_toArray, List.map_cons, List.map_nil]); first | done | rfl | (simp only [List.length_drop, List.length_take]; rfl) | (go_simp; done) | (simp [Act.eval, IntKind.signed]; done) | (simp [Act.eval, IntKind.signed]; rfl)) ?_
            with_reducible refine (lychref1_Get16.calls _ _ l0 18 t457 _ ?side1 ?side2 A19.out).mono ?_
            (case side1 => repeat (first | exact (Kd.C_below HR0.out (by repeat (first | (with_reducible first | exact HB.out | apply below_alloc | apply pw_below_drewN | apply below_drew1 | refine below_set ?_ GE448.out) | exact HB.out))) | (with_reducible refine Kd.C_alloc ?_ _) | (with_reducible refine Kd.C_drewN ?_ _) | (with_reducible refine Kd.C_drew ?_)))
            (case side2 => exact HC0.out)
            rintro e w' ⟨rfl, ⟨nd, rfl⟩⟩
            refine ⟨_, rfl, ?_⟩
            refine hK.out _ _ (((HB.out.cell (World.block_lt_of_cell? w _ hw454_0)).trans hw454_0)) (fun hHeld => ?_)
            clear hK K
            refine norm_ (a' := ?_) ?_ ?_
            rotate_left
            · show Act.put _ (some 39) _ = _
              simp only [Act.put, List.setIfInBounds_toArray, List.set_cons_zero, List.set_cons_succ, i64_w, i32_w]
              rfl
            refine one_ (i := 19) (N := some 42) #[true, true, true, true, true, true, true, true, true, true, true, true, true, true, true, true, true, true, true, true, true, true, true, true, false, false, false, false] rfl rfl (one_of HT_.out (by kernel_rfl)) (by decide) (fun K hK => ?_)
            refine goes_ Try.func34 (by kernel_rfl) rfl #[.slice (some ad449) l0.length c0, .int .i64 20, .int .i64 (wrap64 ((wrap64 ((rd l0 12) / 16)) * 4))] (by rfl) rfl rfl (by (try simp only [List.map_toArray, List.map_cons, List.map_nil]); first | done | rfl | (simp only [List.length_drop, List.length_take]; rfl) | (go_simp; done) | (simp [Act.eval, IntKind.signed]; done) | (simp [Act.eval, IntKind.signed]; rfl)) ?_
            with_reducible refine (lychref1_cut.calls _ _ l0 20 (wrap64 ((wrap64 ((rd l0 12) / 16)) * 4)) t458 _ ?side1 ?side2 A20.out).mono ?_
            (case side1 => repeat (first | exact (Kd.C_below HR0.out (by repeat (first | (with_reducible first | exact HB.out | apply below_alloc | apply pw_below_drewN | apply below_drew1 | refine below_set ?_ GE448.out) | exact HB.out))) | (with_reducible refine Kd.C_alloc ?_ _) | (with_reducible refine Kd.C_drewN ?_ _) | (with_reducible refine Kd.C_drew ?_)))
            (case side2 => exact HC0.out)
            rintro e w24 ⟨v459, rfl, ho0, hb⟩
            refine ⟨_, rfl, ?_⟩
            have n0_ := Aside0.mk (Kd.R_lower ho0 (below_size (by repeat (first | (with_reducible first | exact HB.out | apply below_alloc | apply pw_below_drewN | apply below_drew1 | refine below_set ?_ GE448.out) | exact HB.out))))
            have n1_ := Aside0.mk (blk_below (g := gb448) (o := .cells #[.int .u16 0, .int .u16 0, .int .u32 0, .int .u32 0, .int .u8 0, .int .u16 0, .int .u16 0, .int .u16 0, .slice none 0 0, .slice none 0 0] 49 (0, 0)) (by (with_reducible repeat (first | refine blk_drewN ?_ _ | refine blk_drew ?_ | refine blk_alloc ?_ _)); exact BK448.out) hb)
            have n2_ := Aside0.mk (below_step (by repeat (first | (with_reducible first | exact HB.out | apply below_alloc | apply pw_below_drewN | apply below_drew1 | refine below_set ?_ GE448.out) | exact HB.out)) hb)
            clear BK448
            clear HB
            have HO460 := n0_
            have BK448 := n1_
            have HB := n2_
            clear n0_ n1_ n2_
            (try clear hb)
            (try clear hb2)
            (try clear hk)
            (try clear hi)
            (try clear ho0)
            refine hK.out _ _ (((HB.out.cell (World.block_lt_of_cell? w _ hw454_0)).trans hw454_0)) (fun hHeld => ?_)
            clear hK K
            refine norm_ (a' := ?_) ?_ ?_
            rotate_left
            · show Act.put _ (some 42) _ = _
              simp only [Act.put, List.setIfInBounds_toArray, List.set_cons_zero, List.set_cons_succ, i64_w, i32_w]
              rfl
            refine one_ (i := 24) (N := some 47) #[true, true, true, true, true, true, true, true, true, true, true, true, true, true, true, true, true, true, true, true, true, true, true, true, true, false, false, false] rfl rfl (one_of HT_.out (by kernel_rfl)) (by decide) (fun K hK => ?_)
            refine goes_ Try.func34 (by kernel_rfl) rfl #[.slice (some ad449) l0.length c0, .int .i64 (wrap64 ((wrap64 ((rd l0 12) / 16)) * 4)), .int .i64 (l0.length : Int)] (by rfl) rfl rfl (by (try simp only [List.map_toArray, List.map_cons, List.map_nil]); first | done | rfl | (simp only [List.length_drop, List.length_take]; rfl) | (go_simp; done) | (simp [Act.eval, IntKind.signed]; done) | (simp [Act.eval, IntKind.signed]; rfl)) ?_
            with_reducible refine (lychref1_cut.calls _ _ l0 (wrap64 ((wrap64 ((rd l0 12) / 16)) * 4)) (l0.length : Int) t461 _ ?side1 ?side2 A21.out).mono ?_
            (case side1 => repeat (first | exact (Kd.C_below HR0.out HB.out) | (with_reducible refine Kd.C_alloc ?_ _) | (with_reducible refine Kd.C_drewN ?_ _) | (with_reducible refine Kd.C_drew ?_)))
            (case side2 => exact HC0.out)
            rintro e w25 ⟨v462, rfl, ho0, hb⟩
            refine ⟨_, rfl, ?_⟩
            have n0_ := Aside0.mk (Kd.R_elder' (by (with_reducible repeat (first | apply Kd.R_alloc | apply Kd.R_drewN | apply Kd.R_drew)); exact HO460.out) (Kd.R_base ho0) hb)
            have n1_ := Aside0.mk (Kd.R_lower (Kd.R_new' ho0 (Kd.R_lt (by (with_reducible repeat (first | apply Kd.R_alloc | apply Kd.R_drewN | apply Kd.R_drew)); exact HO460.out))) (below_size (by repeat (first | (with_reducible first | exact HB.out | apply below_alloc | apply pw_below_drewN | apply below_drew1 | refine below_set ?_ GE448.out) | exact HB.out))))
            have n2_ := Aside0.mk (blk_below (g := gb448) (o := .cells #[.int .u16 0, .int .u16 0, .int .u32 0, .int .u32 0, .int .u8 0, .int .u16 0, .int .u16 0, .int .u16 0, .slice none 0 0, .slice none 0 0] 49 (0, 0)) (by (with_reducible repeat (first | refine blk_drewN ?_ _ | refine blk_drew ?_ | refine blk_alloc ?_ _)); exact BK448.out) hb)
            have n3_ := Aside0.mk (below_step (by repeat (first | (with_reducible first | exact HB.out | apply below_alloc | apply pw_below_drewN | apply below_drew1 | refine below_set ?_ GE448.out) | exact HB.out)) hb)
            clear HO460
            clear BK448
            clear HB
            have HO460 := n0_
            have HO463 := n1_
            have BK448 := n2_
            have HB := n3_
            clear n0_ n1_ n2_ n3_
            (try clear hb)
            (try clear hb2)
            (try clear hk)
            (try clear hi)
            (try clear ho0)
            obtain ⟨Ao26, co26, eo26⟩ := Kd.R_slice HO463.out
            (first | subst eo26 | (injection eo26 with f1_ f2_ f3_; have f4_ := f1_.symm; have f5_ := f3_.symm; clear f1_ f2_ f3_; subst f4_; subst f5_))
            obtain ⟨Ao27, co27, eo27⟩ := Kd.R_slice HO460.out
            (first | subst eo27 | (injection eo27 with f1_ f2_ f3_; have f4_ := f1_.symm; have f5_ := f3_.symm; clear f1_ f2_ f3_; subst f4_; subst f5_))
            refine hK.out _ _ (((HB.out.cell (World.block_lt_of_cell? w _ hw454_0)).trans hw454_0)) (fun hHeld => ?_)
            clear hK K
            refine norm_ (a' := ?_) ?_ ?_
            rotate_left
            · show Act.put _ (some 47) _ = _
              simp only [Act.put, List.setIfInBounds_toArray, List.set_cons_zero, List.set_cons_succ, i64_w, i32_w]
              rfl
            refine pure_ (i := 25) (N := some 48) (v := ?_) (a' := ?_) #[true, true, true, true, true, true, true, true, true, true, true, true, true, true, true, true, true, true, true, true, true, true, true, true, true, true, false, false] rfl rfl (any_of HT_.out (by kernel_rfl)) (fun _ _ _ h => h) (Or.inl ⟨by rfl, ?_⟩) ?_ ?_
            rotate_left
            · intro w'
              go_simp
              with_reducible rfl
            rotate_left
            · simp only [Act.put, List.setIfInBounds_toArray, List.set_cons_zero, List.set_cons_succ, i64_w, i32_w]
              rfl
            refine one_ (i := 26) (N := none) #[true, true, true, true, true, true, true, true, true, true, true, true, true, true, true, true, true, true, true, true, true, true, true, true, true, true, true, false] rfl rfl (one_of HT_.out (by kernel_rfl)) (by decide) (fun K hK => ?_)
            have hs28 : w25.cell? ⟨gb448, 0, none⟩ = some (.int .u16 0) := (blk_cell BK448.out 0).trans rfl
            have hfs28 := blk_frozen BK448.out 0
            have hs29 : w25.cell? ⟨gb448, 1, none⟩ = some (.int .u16 0) := (blk_cell BK448.out 1).trans rfl
            have hfs29 := blk_frozen BK448.out 1
            have hs30 : w25.cell? ⟨gb448, 2, none⟩ = some (.int .u32 0) := (blk_cell BK448.out 2).trans rfl
            have hfs30 := blk_frozen BK448.out 2
            have hs31 : w25.cell? ⟨gb448, 3, none⟩ = some (.int .u32 0) := (blk_cell BK448.out 3).trans rfl
            have hfs31 := blk_frozen BK448.out 3
            have hs32 : w25.cell? ⟨gb448, 4, none⟩ = some (.int .u8 0) := (blk_cell BK448.out 4).trans rfl
            have hfs32 := blk_frozen BK448.out 4
            have hs33 : w25.cell? ⟨gb448, 5, none⟩ = some (.int .u16 0) := (blk_cell BK448.out 5).trans rfl
            have hfs33 := blk_frozen BK448.out 5
            have hs34 : w25.cell? ⟨gb448, 6, none⟩ = some (.int .u16 0) := (blk_cell BK448.out 6).trans rfl
            have hfs34 := blk_frozen BK448.out 6
            have hs35 : w25.cell? ⟨gb448, 7, none⟩ = some (.int .u16 0) := (blk_cell BK448.out 7).trans rfl
            have hfs35 := blk_frozen BK448.out 7
            have hs36 : w25.cell? ⟨gb448, 8, none⟩ = some (.slice none 0 0) := (blk_cell BK448.out 8).trans rfl
            have hfs36 := blk_frozen BK448.out 8
            have hs37 : w25.cell? ⟨gb448, 9, none⟩ = some (.slice none 0 0) := (blk_cell BK448.out 9).trans rfl
            have hfs37 := blk_frozen BK448.out 9
            refine skip_ (w1 := ?_) (by rfl) rfl ?_ ?_
            rotate_left
            · go_simp
              rfl
            refine hK.out _ _ (((cell_far (p := ⟨gb448, _, none⟩) (by first | exact Nat.ne_of_lt (Nat.lt_of_lt_of_le (by have := World.block_lt_of_cell? _ _ hw454_0; first | rwa [add_block] at this | exact this) GW448.out) | (rw [add_block]; exact Nat.ne_of_lt (Nat.lt_of_lt_of_le (by have := World.block_lt_of_cell? _ _ hw454_0; first | rwa [add_block] at this | exact this) GW448.out)) | (show (Addr.add _ _).block ≠ _; rw [add_block]; exact Nat.ne_of_lt (Nat.lt_of_lt_of_le (by have := World.block_lt_of_cell? _ _ hw454_0; first | rwa [add_block] at this | exact this) GW448.out)) | (dsimp only; exact Nat.ne_of_lt (Nat.lt_of_lt_of_le (by have := World.block_lt_of_cell? _ _ hw454_0; first | rwa [add_block] at this | exact this) GW448.out))) _).trans (((cell_far (p := ⟨gb448, _, none⟩) (by first | exact Nat.ne_of_lt (Nat.lt_of_lt_of_le (by have := World.block_lt_of_cell? _ _ hw454_0; first | rwa [add_block] at this | exact this) GW448.out) | (rw [add_block]; exact Nat.ne_of_lt (Nat.lt_of_lt_of_le (by have := World.block_lt_of_cell? _ _ hw454_0; first | rwa [add_block] at this | exact this) GW448.out)) | (show (Addr.add _ _).block ≠ _; rw [add_block]; exact Nat.ne_of_lt (Nat.lt_of_lt_of_le (by have := World.block_lt_of_cell? _ _ hw454_0; first | rwa [add_block] at this | exact this) GW448.out)) | (dsimp only; exact Nat.ne_of_lt (Nat.lt_of_lt_of_le (by have := World.block_lt_of_cell? _ _ hw454_0; first | rwa [add_block] at this | exact this) GW448.out))) _).trans (((cell_far (p := ⟨gb448, _, none⟩) (by first | exact Nat.ne_of_lt (Nat.lt_of_lt_of_le (by have := World.block_lt_of_cell? _ _ hw454_0; first | rwa [add_block] at this | exact this) GW448.out) | (rw [add_block]; exact Nat.ne_of_lt (Nat.lt_of_lt_of_le (by have := World.block_lt_of_cell? _ _ hw454_0; first | rwa [add_block] at this | exact this) GW448.out)) | (show (Addr.add _ _).block ≠ _; rw [add_block]; exact Nat.ne_of_lt (Nat.lt_of_lt_of_le (by have := World.block_lt_of_cell? _ _ hw454_0; first | rwa [add_block] at this | exact this) GW448.out)) | (dsimp only; exact Nat.ne_of_lt (Nat.lt_of_lt_of_le (by have := World.block_lt_of_cell? _ _ hw454_0; first | rwa [add_block] at this | exact this) GW448.out))) _).trans (((cell_far (p := ⟨gb448, _, none⟩) (by first | exact Nat.ne_of_lt (Nat.lt_of_lt_of_le (by have := World.block_lt_of_cell? _ _ hw454_0; first | rwa [add_block] at this | exact this) GW448.out) | (rw [add_block]; exact Nat.ne_of_lt (Nat.lt_of_lt_of_le (by have := World.block_lt_of_cell? _ _ hw454_0; first | rwa [add_block] at this | exact this) GW448.out)) | (show (Addr.add _ _).block ≠ _; rw [add_block]; exact Nat.ne_of_lt (Nat.lt_of_lt_of_le (by have := World.block_lt_of_cell? _ _ hw454_0; first | rwa [add_block] at this | exact this) GW448.out)) | (dsimp only; exact Nat.ne_of_lt (Nat.lt_of_lt_of_le (by have := World.block_lt_of_cell? _ _ hw454_0; first | rwa [add_block] at this | exact this) GW448.out))) _).trans (((cell_far (p := ⟨gb448, _, none⟩) (by first | exact Nat.ne_of_lt (Nat.lt_of_lt_of_le (by have := World.block_lt_of_cell? _ _ hw454_0; first | rwa [add_block] at this | exact this) GW448.out) | (rw [add_block]; exact Nat.ne_of_lt (Nat.lt_of_lt_of_le (by have := World.block_lt_of_cell? _ _ hw454_0; first | rwa [add_block] at this | exact this) GW448.out)) | (show (Addr.add _ _).block ≠ _; rw [add_block]; exact Nat.ne_of_lt (Nat.lt_of_lt_of_le (by have := World.block_lt_of_cell? _ _ hw454_0; first | rwa [add_block] at this | exact this) GW448.out)) | (dsimp only; exact Nat.ne_of_lt (Nat.lt_of_lt_of_le (by have := World.block_lt_of_cell? _ _ hw454_0; first | rwa [add_block] at this | exact this) GW448.out))) _).trans (((cell_far (p := ⟨gb448, _, none⟩) (by first | exact Nat.ne_of_lt (Nat.lt_of_lt_of_le (by have := World.block_lt_of_cell? _ _ hw454_0; first | rwa [add_block] at this | exact this) GW448.out) | (rw [add_block]; exact Nat.ne_of_lt (Nat.lt_of_lt_of_le (by have := World.block_lt_of_cell? _ _ hw454_0; first | rwa [add_block] at this | exact this) GW448.out)) | (show (Addr.add _ _).block ≠ _; rw [add_block]; exact Nat.ne_of_lt (Nat.lt_of_lt_of_le (by have := World.block_lt_of_cell? _ _ hw454_0; first | rwa [add_block] at this | exact this) GW448.out)) | (dsimp only; exact Nat.ne_of_lt (Nat.lt_of_lt_of_le (by have := World.block_lt_of_cell? _ _ hw454_0; first | rwa [add_block] at this | exact this) GW448.out))) _).trans (((cell_far (p := ⟨gb448, _, none⟩) (by first | exact Nat.ne_of_lt (Nat.lt_of_lt_of_le (by have := World.block_lt_of_cell? _ _ hw454_0; first | rwa [add_block] at this | exact this) GW448.out) | (rw [add_block]; exact Nat.ne_of_lt (Nat.lt_of_lt_of_le (by have := World.block_lt_of_cell? _ _ hw454_0; first | rwa [add_block] at this | exact this) GW448.out)) | (show (Addr.add _ _).block ≠ _; rw [add_block]; exact Nat.ne_of_lt (Nat.lt_of_lt_of_le (by have := World.block_lt_of_cell? _ _ hw454_0; first | rwa [add_block] at this | exact this) GW448.out)) | (dsimp only; exact Nat.ne_of_lt (Nat.lt_of_lt_of_le (by have := World.block_lt_of_cell? _ _ hw454_0; first | rwa [add_block] at this | exact this) GW448.out))) _).trans (((cell_far (p := ⟨gb448, _, none⟩) (by first | exact Nat.ne_of_lt (Nat.lt_of_lt_of_le (by have := World.block_lt_of_cell? _ _ hw454_0; first | rwa [add_block] at this | exact this) GW448.out) | (rw [add_block]; exact Nat.ne_of_lt (Nat.lt_of_lt_of_le (by have := World.block_lt_of_cell? _ _ hw454_0; first | rwa [add_block] at this | exact this) GW448.out)) | (show (Addr.add _ _).block ≠ _; rw [add_block]; exact Nat.ne_of_lt (Nat.lt_of_lt_of_le (by have := World.block_lt_of_cell? _ _ hw454_0; first | rwa [add_block] at this | exact this) GW448.out)) | (dsimp only; exact Nat.ne_of_lt (Nat.lt_of_lt_of_le (by have := World.block_lt_of_cell? _ _ hw454_0; first | rwa [add_block] at this | exact this) GW448.out))) _).trans (((cell_far (p := ⟨gb448, _, none⟩) (by first | exact Nat.ne_of_lt (Nat.lt_of_lt_of_le (by have := World.block_lt_of_cell? _ _ hw454_0; first | rwa [add_block] at this | exact this) GW448.out) | (rw [add_block]; exact Nat.ne_of_lt (Nat.lt_of_lt_of_le (by have := World.block_lt_of_cell? _ _ hw454_0; first | rwa [add_block] at this | exact this) GW448.out)) | (show (Addr.add _ _).block ≠ _; rw [add_block]; exact Nat.ne_of_lt (Nat.lt_of_lt_of_le (by have := World.block_lt_of_cell? _ _ hw454_0; first | rwa [add_block] at this | exact this) GW448.out)) | (dsimp only; exact Nat.ne_of_lt (Nat.lt_of_lt_of_le (by have := World.block_lt_of_cell? _ _ hw454_0; first | rwa [add_block] at this | exact this) GW448.out))) _).trans (((cell_far (p := ⟨gb448, _, none⟩) (by first | exact Nat.ne_of_lt (Nat.lt_of_lt_of_le (by have := World.block_lt_of_cell? _ _ hw454_0; first | rwa [add_block] at this | exact this) GW448.out) | (rw [add_block]; exact Nat.ne_of_lt (Nat.lt_of_lt_of_le (by have := World.block_lt_of_cell? _ _ hw454_0; first | rwa [add_block] at this | exact this) GW448.out)) | (show (Addr.add _ _).block ≠ _; rw [add_block]; exact Nat.ne_of_lt (Nat.lt_of_lt_of_le (by have := World.block_lt_of_cell? _ _ hw454_0; first | rwa [add_block] at this | exact this) GW448.out)) | (dsimp only; exact Nat.ne_of_lt (Nat.lt_of_lt_of_le (by have := World.block_lt_of_cell? _ _ hw454_0; first | rwa [add_block] at this | exact this) GW448.out))) _).trans (hHeld))))))))))))))))))))) (fun hHeld => ?_)
            clear hK K
            refine pure_ (i := 27) (N := some 3) (v := ?_) (a' := ?_) #[true, true, true, true, true, true, true, true, true, true, true, true, true, true, true, true, true, true, true, true, true, true, true, true, true, true, true, true] rfl rfl (any_of HT_.out (by kernel_rfl)) (fun _ _ _ h => h) (Or.inl ⟨by rfl, ?_⟩) ?_ ?_
            rotate_left
            · intro w'
              go_simp
              with_reducible rfl
            rotate_left
            · simp only [Act.put, List.setIfInBounds_toArray, List.set_cons_zero, List.set_cons_succ, i64_w, i32_w]
              rfl
            refine done_ (done_of HT_.out (by kernel_rfl)) ?_
            try go_wp2
            refine bodyPost_ret (results_ct rfl _ _ gb448 49 #[.int .u16 t450, .int .u16 t451, .int .u32 t452, .int .u32 t453, .int .u8 (rd l0 13), .int .u16 t455, .int .u16 t456, .int .u16 t457, .slice Ao27 t458.length co27, .slice Ao26 t461.length co26] (0, 0) _ rfl (by (with_reducible repeat (first | refine blk_drewN ?_ _ | refine blk_drew ?_ | refine blk_alloc ?_ _)); refine blk_put (cs := #[.int .u16 t450, .int .u16 t451, .int .u32 t452, .int .u32 t453, .int .u8 (rd l0 13), .int .u16 t455, .int .u16 t456, .int .u16 t457, .slice Ao27 t458.length co27, .slice none 0 0]) ?_ 9 _ rfl; (with_reducible repeat (first | refine blk_drewN ?_ _ | refine blk_drew ?_ | refine blk_alloc ?_ _)); refine blk_put (cs := #[.int .u16 t450, .int .u16 t451, .int .u32 t452, .int .u32 t453, .int .u8 (rd l0 13), .int .u16 t455, .int .u16 t456, .int .u16 t457, .slice none 0 0, .slice none 0 0]) ?_ 8 _ rfl; (with_reducible repeat (first | refine blk_drewN ?_ _ | refine blk_drew ?_ | refine blk_alloc ?_ _)); refine blk_put (cs := #[.int .u16 t450, .int .u16 t451, .int .u32 t452, .int .u32 t453, .int .u8 (rd l0 13), .int .u16 t455, .int .u16 t456, .int .u16 0, .slice none 0 0, .slice none 0 0]) ?_ 7 _ rfl; (with_reducible repeat (first | refine blk_drewN ?_ _ | refine blk_drew ?_ | refine blk_alloc ?_ _)); refine blk_put (cs := #[.int .u16 t450, .int .u16 t451, .int .u32 t452, .int .u32 t453, .int .u8 (rd l0 13), .int .u16 t455, .int .u16 0, .int .u16 0, .slice none 0 0, .slice none 0 0]) ?_ 6 _ rfl; (with_reducible repeat (first | refine blk_drewN ?_ _ | refine blk_drew ?_ | refine blk_alloc ?_ _)); refine blk_put (cs := #[.int .u16 t450, .int .u16 t451, .int .u32 t452, .int .u32 t453, .int .u8 (rd l0 13), .int .u16 0, .int .u16 0, .int .u16 0, .slice none 0 0, .slice none 0 0]) ?_ 5 _ rfl; (with_reducible repeat (first | refine blk_drewN ?_ _ | refine blk_drew ?_ | refine blk_alloc ?_ _)); refine blk_put (cs := #[.int .u16 t450, .int .u16 t451, .int .u32 t452, .int .u32 t453, .int .u8 0, .int .u16 0, .int .u16 0, .int .u16 0, .slice none 0 0, .slice none 0 0]) ?_ 4 _ rfl; (with_reducible repeat (first | refine blk_drewN ?_ _ | refine blk_drew ?_ | refine blk_alloc ?_ _)); refine blk_put (cs := #[.int .u16 t450, .int .u16 t451, .int .u32 t452, .int .u32 0, .int .u8 0, .int .u16 0, .int .u16 0, .int .u16 0, .slice none 0 0, .slice none 0 0]) ?_ 3 _ rfl; (with_reducible repeat (first | refine blk_drewN ?_ _ | refine blk_drew ?_ | refine blk_alloc ?_ _)); refine blk_put (cs := #[.int .u16 t450, .int .u16 t451, .int .u32 0, .int .u32 0, .int .u8 0, .int .u16 0, .int .u16 0, .int .u16 0, .slice none 0 0, .slice none 0 0]) ?_ 2 _ rfl; (with_reducible repeat (first | refine blk_drewN ?_ _ | refine blk_drew ?_ | refine blk_alloc ?_ _)); refine blk_put (cs := #[.int .u16 t450, .int .u16 0, .int .u32 0, .int .u32 0, .int .u8 0, .int .u16 0, .int .u16 0, .int .u16 0, .slice none 0 0, .slice none 0 0]) ?_ 1 _ rfl; (with_reducible repeat (first | refine blk_drewN ?_ _ | refine blk_drew ?_ | refine blk_alloc ?_ _)); refine blk_put (cs := #[.int .u16 0, .int .u16 0, .int .u32 0, .int .u32 0, .int .u8 0, .int .u16 0, .int .u16 0, .int .u16 0, .slice none 0 0, .slice none 0 0]) ?_ 0 _ rfl; (with_reducible repeat (first | refine blk_drewN ?_ _ | refine blk_drew ?_ | refine blk_alloc ?_ _)); exact BK448.out) Try.underlying49 rfl (by kernel_rfl)) rfl ?_
            exact ⟨_, _, by first | rfl | (simp [errW_none, errW_some] <;> rfl) | (simp [*, errW_none, errW_some] <;> rfl), by (with_reducible repeat (first | apply Kd.R_alloc | apply Kd.R_drewN | apply Kd.R_drew)); exact Kd.R_mono (Kd.R_far (p := ⟨gb448, 9, none⟩) (Kd.R_far (p := ⟨gb448, 8, none⟩) (Kd.R_far (p := ⟨gb448, 7, none⟩) (Kd.R_far (p := ⟨gb448, 6, none⟩) (Kd.R_far (p := ⟨gb448, 5, none⟩) (Kd.R_far (p := ⟨gb448, 4, none⟩) (Kd.R_far (p := ⟨gb448, 3, none⟩) (Kd.R_far (p := ⟨gb448, 2, none⟩) (Kd.R_far (p := ⟨gb448, 1, none⟩) (Kd.R_far (p := ⟨gb448, 0, none⟩) (Kd.R_types HO460.out BK448.out (by decide)) (fun _ hk => hk.2) (.int .u16 t450)) (fun _ hk => hk.2) (.int .u16 t451)) (fun _ hk => hk.2) (.int .u32 t452)) (fun _ hk => hk.2) (.int .u32 t453)) (fun _ hk => hk.2) (.int .u8 (rd l0 13))) (fun _ hk => hk.2) (.int .u16 t455)) (fun _ hk => hk.2) (.int .u16 t456)) (fun _ hk => hk.2) (.int .u16 t457)) (fun _ hk => hk.2) (.slice Ao27 t458.length co27)) (fun _ hk => hk.2) (.slice Ao26 t461.length co26)) (fun _ hk => hk.1.2), by (with_reducible repeat (first | apply Kd.R_alloc | apply Kd.R_drewN | apply Kd.R_drew)); exact Kd.R_mono (Kd.R_far (p := ⟨gb448, 9, none⟩) (Kd.R_far (p := ⟨gb448, 8, none⟩) (Kd.R_far (p := ⟨gb448, 7, none⟩) (Kd.R_far (p := ⟨gb448, 6, none⟩) (Kd.R_far (p := ⟨gb448, 5, none⟩) (Kd.R_far (p := ⟨gb448, 4, none⟩) (Kd.R_far (p := ⟨gb448, 3, none⟩) (Kd.R_far (p := ⟨gb448, 2, none⟩) (Kd.R_far (p := ⟨gb448, 1, none⟩) (Kd.R_far (p := ⟨gb448, 0, none⟩) (Kd.R_types HO463.out BK448.out (by decide)) (fun _ hk => hk.2) (.int .u16 t450)) (fun _ hk => hk.2) (.int .u16 t451)) (fun _ hk => hk.2) (.int .u32 t452)) (fun _ hk => hk.2) (.int .u32 t453)) (fun _ hk => hk.2) (.int .u8 (rd l0 13))) (fun _ hk => hk.2) (.int .u16 t455)) (fun _ hk => hk.2) (.int .u16 t456)) (fun _ hk => hk.2) (.int .u16 t457)) (fun _ hk => hk.2) (.slice Ao27 t458.length co27)) (fun _ hk => hk.2) (.slice Ao26 t461.length co26)) (fun _ hk => hk.1.2), by repeat (first | (with_reducible first | exact HB.out | apply below_alloc | apply pw_below_drewN | apply below_drew1 | refine below_set ?_ GE448.out) | exact HB.out)⟩
          · rw [if_neg c16] at H
            exact absurd H (by simp)
    · rw [if_neg c5] at H
      exact absurd H (by simp)

end Go.Proofs.Ytnodigdpodiphaa.PA
