-- written by a patched print
import Derived.Test.YtnfgmcjgmccggaaPAx0
import Derived.Test.YtnfgmcjgmccggaaPAx2
import Derived.Test.YtnfgmcjgmccggaaPAx3
namespace Go.Proofs.Ytnfgmcjgmccggaa.PA
open Go.RowKit Go.Proofs.YtnfgmcjgmccggaaW.PrintWords Go.Proofs.YtnfgmcjgmccggaaW.PrintLast Go.Proofs.YtnfgmcjgmccggaaW.PrintMore
attribute [local go_sem] max2_int min2_int max_two min_two max_three min_three max_four min_four   -- for this text's walks alone
set_option linter.unusedVariables false
set_option linter.unusedSimpArgs false

/-! ### lychhelp_Eth: function 15 -/
def lychhelp_Eth.f (a0_0 : Int) (a0_1 : Int) (a0_2 : Int) (a0_3 : Int) (a0_4 : Int) (a0_5 : Int) (a0_6 : Int) (a0_7 : Int) (a0_8 : Int) (a0_9 : Int) (a0_10 : Int) (a0_11 : Int) (a0_12 : Int) (l0_13 : List Int) (a1_0 : Int) (a1_1 : Int) (a1_2 : Int) (a1_3 : Int) (a1_4 : Int) (a1_5 : Int) (a1_6 : Int) (a1_7 : Int) (a1_8 : Int) (a1_9 : Int) (a1_10 : Int) (a1_11 : Int) (a1_12 : Int) (l1_13 : List Int) : Option Bool := if (a0_0 == a1_0 && (a0_1 == a1_1 && (a0_2 == a1_2 && (a0_3 == a1_3 && (a0_4 == a1_4 && (a0_5 == a1_5)))))) = true then if (a0_6 == a1_6 && (a0_7 == a1_7 && (a0_8 == a1_8 && (a0_9 == a1_9 && (a0_10 == a1_10 && (a0_11 == a1_11)))))) = true then if a0_12 = a1_12 then lychhelp_Bytes.f l0_13 l1_13 else some false else some false else some false
set_option maxHeartbeats 8000000 in
set_option maxRecDepth 100000 in
theorem lychhelp_Eth.calls (a0_0 : Int) (a0_1 : Int) (a0_2 : Int) (a0_3 : Int) (a0_4 : Int) (a0_5 : Int) (a0_6 : Int) (a0_7 : Int) (a0_8 : Int) (a0_9 : Int) (a0_10 : Int) (a0_11 : Int) (a0_12 : Int) (A0_13 : Option Addr) (c0_13 : Nat) (l0_13 : List Int) (a1_0 : Int) (a1_1 : Int) (a1_2 : Int) (a1_3 : Int) (a1_4 : Int) (a1_5 : Int) (a1_6 : Int) (a1_7 : Int) (a1_8 : Int) (a1_9 : Int) (a1_10 : Int) (a1_11 : Int) (a1_12 : Int) (A1_13 : Option Addr) (c1_13 : Nat) (l1_13 : List Int) (r : Bool) (w : World) (hr0_13 : Kd.C (Kd.int .u8) w A0_13 l0_13.length l0_13) (hc0_13 : l0_13.length ≤ c0_13) (hr1_13 : Kd.C (Kd.int .u8) w A1_13 l1_13.length l1_13) (hc1_13 : l1_13.length ≤ c1_13) (h : lychhelp_Eth.f a0_0 a0_1 a0_2 a0_3 a0_4 a0_5 a0_6 a0_7 a0_8 a0_9 a0_10 a0_11 a0_12 l0_13 a1_0 a1_1 a1_2 a1_3 a1_4 a1_5 a1_6 a1_7 a1_8 a1_9 a1_10 a1_11 a1_12 l1_13 = some r) :
    Calls Try.prog 15 #[.agg #[.int .u8 a0_0, .int .u8 a0_1, .int .u8 a0_2, .int .u8 a0_3, .int .u8 a0_4, .int .u8 a0_5, .int .u8 a0_6, .int .u8 a0_7, .int .u8 a0_8, .int .u8 a0_9, .int .u8 a0_10, .int .u8 a0_11, .int .u16 a0_12, .slice A0_13 l0_13.length c0_13], .agg #[.int .u8 a1_0, .int .u8 a1_1, .int .u8 a1_2, .int .u8 a1_3, .int .u8 a1_4, .int .u8 a1_5, .int .u8 a1_6, .int .u8 a1_7, .int .u8 a1_8, .int .u8 a1_9, .int .u8 a1_10, .int .u8 a1_11, .int .u16 a1_12, .slice A1_13 l1_13.length c1_13]] w fun e w' => e = .returned (.bool r) ∧ Below w.heap.size w w' := by
  have hu28 := Try.underlying28
  have HR0 := Aside0.mk hr0_13
  have HC0 := Aside0.mk hc0_13
  have HR1 := Aside0.mk hr1_13
  have HC1 := Aside0.mk hc1_13
  clear hr0_13 hc0_13 hr1_13 hc1_13
  have HB := Aside0.mk (Below.refl w.heap.size w)
  unfold lychhelp_Eth.f at h
  have hd1 := eth_Parse.eql6 a0_0 a0_1 a0_2 a0_3 a0_4 a0_5 a1_0 a1_1 a1_2 a1_3 a1_4 a1_5
  have hd2 := eth_Parse.eql6 a0_6 a0_7 a0_8 a0_9 a0_10 a0_11 a1_6 a1_7 a1_8 a1_9 a1_10 a1_11
  generalize (a0_0 == a1_0 && (a0_1 == a1_1 && (a0_2 == a1_2 && (a0_3 == a1_3 && (a0_4 == a1_4 && (a0_5 == a1_5)))))) = e1 at hd1 h
  generalize (a0_6 == a1_6 && (a0_7 == a1_7 && (a0_8 == a1_8 && (a0_9 == a1_9 && (a0_10 == a1_10 && (a0_11 == a1_11)))))) = e2 at hd2 h
  cases e1 with
  | false =>
    rw [if_neg (by decide)] at h
    obtain rfl := Option.some.inj h
    go_enter Try.func15, Try.ntmps15
    go_upto_region 1 with (first | ((with_reducible refine gate_dst (N := 2) rfl ?_); refine box_event ?hg (N := 2) ?hd (cs := #[.int .u8 a0_0, .int .u8 a0_1, .int .u8 a0_2, .int .u8 a0_3, .int .u8 a0_4, .int .u8 a0_5, .int .u8 a0_6, .int .u8 a0_7, .int .u8 a0_8, .int .u8 a0_9, .int .u8 a0_10, .int .u8 a0_11, .int .u16 a0_12, .slice A0_13 l0_13.length c0_13]) (t := 28) ?hr ?_; (case hd => rfl); (case hg => rfl); (case hr => first | (go_simp; done) | (go_simp; rfl)); intro gp hg w1 hbox hb; have n0_ := Aside0.mk (below_step (by repeat (first | (with_reducible first | exact HB.out | apply below_alloc | apply pw_below_drewN | apply below_drew1) | exact HB.out)) hb); have HP := Aside0.mk hbox; clear HB; have HB := n0_; clear n0_ hb hbox hg) | ((with_reducible refine gate_dst (N := 3) rfl ?_); refine box_event ?hg (N := 3) ?hd (cs := #[.int .u8 a1_0, .int .u8 a1_1, .int .u8 a1_2, .int .u8 a1_3, .int .u8 a1_4, .int .u8 a1_5, .int .u8 a1_6, .int .u8 a1_7, .int .u8 a1_8, .int .u8 a1_9, .int .u8 a1_10, .int .u8 a1_11, .int .u16 a1_12, .slice A1_13 l1_13.length c1_13]) (t := 28) ?hr ?_; (case hd => rfl); (case hg => rfl); (case hr => first | (go_simp; done) | (go_simp; rfl)); intro gq hg w2 hbox hb; have n0_ := Aside0.mk (below_step (by repeat (first | (with_reducible first | exact HB.out | apply below_alloc | apply pw_below_drewN | apply below_drew1) | exact HB.out)) hb); have n1_ := Aside0.mk (blk_below (g := gp) (o := .cells #[.int .u8 a0_0, .int .u8 a0_1, .int .u8 a0_2, .int .u8 a0_3, .int .u8 a0_4, .int .u8 a0_5, .int .u8 a0_6, .int .u8 a0_7, .int .u8 a0_8, .int .u8 a0_9, .int .u8 a0_10, .int .u8 a0_11, .int .u16 a0_12, .slice A0_13 l0_13.length c0_13] 28 (0, 0)) (by (with_reducible repeat (first | refine blk_drewN ?_ _ | refine blk_drew ?_ | refine blk_alloc ?_ _)); exact HP.out) hb); have HQ := Aside0.mk hbox; clear HB HP; have HB := n0_; have HP := n1_; clear n0_ n1_ hb hbox hg))
    have hp0 : w2.cell? ⟨gp, 0, none⟩ = some (.int .u8 a0_0) := (blk_cell HP.out 0).trans rfl
    have hq0 : w2.cell? ⟨gq, 0, none⟩ = some (.int .u8 a1_0) := (blk_cell HQ.out 0).trans rfl
    have hp1 : w2.cell? ⟨gp, 1, none⟩ = some (.int .u8 a0_1) := (blk_cell HP.out 1).trans rfl
    have hq1 : w2.cell? ⟨gq, 1, none⟩ = some (.int .u8 a1_1) := (blk_cell HQ.out 1).trans rfl
    have hp2 : w2.cell? ⟨gp, 2, none⟩ = some (.int .u8 a0_2) := (blk_cell HP.out 2).trans rfl
    have hq2 : w2.cell? ⟨gq, 2, none⟩ = some (.int .u8 a1_2) := (blk_cell HQ.out 2).trans rfl
    have hp3 : w2.cell? ⟨gp, 3, none⟩ = some (.int .u8 a0_3) := (blk_cell HP.out 3).trans rfl
    have hq3 : w2.cell? ⟨gq, 3, none⟩ = some (.int .u8 a1_3) := (blk_cell HQ.out 3).trans rfl
    have hp4 : w2.cell? ⟨gp, 4, none⟩ = some (.int .u8 a0_4) := (blk_cell HP.out 4).trans rfl
    have hq4 : w2.cell? ⟨gq, 4, none⟩ = some (.int .u8 a1_4) := (blk_cell HQ.out 4).trans rfl
    have hp5 : w2.cell? ⟨gp, 5, none⟩ = some (.int .u8 a0_5) := (blk_cell HP.out 5).trans rfl
    have hq5 : w2.cell? ⟨gq, 5, none⟩ = some (.int .u8 a1_5) := (blk_cell HQ.out 5).trans rfl
    have hp6 : w2.cell? ⟨gp, 6, none⟩ = some (.int .u8 a0_6) := (blk_cell HP.out 6).trans rfl
    have hq6 : w2.cell? ⟨gq, 6, none⟩ = some (.int .u8 a1_6) := (blk_cell HQ.out 6).trans rfl
    have hp7 : w2.cell? ⟨gp, 7, none⟩ = some (.int .u8 a0_7) := (blk_cell HP.out 7).trans rfl
    have hq7 : w2.cell? ⟨gq, 7, none⟩ = some (.int .u8 a1_7) := (blk_cell HQ.out 7).trans rfl
    have hp8 : w2.cell? ⟨gp, 8, none⟩ = some (.int .u8 a0_8) := (blk_cell HP.out 8).trans rfl
    have hq8 : w2.cell? ⟨gq, 8, none⟩ = some (.int .u8 a1_8) := (blk_cell HQ.out 8).trans rfl
    have hp9 : w2.cell? ⟨gp, 9, none⟩ = some (.int .u8 a0_9) := (blk_cell HP.out 9).trans rfl
    have hq9 : w2.cell? ⟨gq, 9, none⟩ = some (.int .u8 a1_9) := (blk_cell HQ.out 9).trans rfl
    have hp10 : w2.cell? ⟨gp, 10, none⟩ = some (.int .u8 a0_10) := (blk_cell HP.out 10).trans rfl
    have hq10 : w2.cell? ⟨gq, 10, none⟩ = some (.int .u8 a1_10) := (blk_cell HQ.out 10).trans rfl
    have hp11 : w2.cell? ⟨gp, 11, none⟩ = some (.int .u8 a0_11) := (blk_cell HP.out 11).trans rfl
    have hq11 : w2.cell? ⟨gq, 11, none⟩ = some (.int .u8 a1_11) := (blk_cell HQ.out 11).trans rfl
    have hp12 : w2.cell? ⟨gp, 12, none⟩ = some (.int .u16 a0_12) := (blk_cell HP.out 12).trans rfl
    have hq12 : w2.cell? ⟨gq, 12, none⟩ = some (.int .u16 a1_12) := (blk_cell HQ.out 12).trans rfl
    have hp13 : w2.cell? ⟨gp, 13, none⟩ = some (.slice A0_13 l0_13.length c0_13) := (blk_cell HP.out 13).trans rfl
    have hq13 : w2.cell? ⟨gq, 13, none⟩ = some (.slice A1_13 l1_13.length c1_13) := (blk_cell HQ.out 13).trans rfl
    go_wp2
    go_ret
    exact ⟨rfl, by repeat (first | (with_reducible first | exact HB.out | apply below_alloc | apply pw_below_drewN | apply below_drew1) | exact HB.out)⟩
  | true =>
    rw [if_pos rfl] at h
    cases e2 with
    | false =>
      rw [if_neg (by decide)] at h
      obtain rfl := Option.some.inj h
      go_enter Try.func15, Try.ntmps15
      go_upto_region 1 with (first | ((with_reducible refine gate_dst (N := 2) rfl ?_); refine box_event ?hg (N := 2) ?hd (cs := #[.int .u8 a0_0, .int .u8 a0_1, .int .u8 a0_2, .int .u8 a0_3, .int .u8 a0_4, .int .u8 a0_5, .int .u8 a0_6, .int .u8 a0_7, .int .u8 a0_8, .int .u8 a0_9, .int .u8 a0_10, .int .u8 a0_11, .int .u16 a0_12, .slice A0_13 l0_13.length c0_13]) (t := 28) ?hr ?_; (case hd => rfl); (case hg => rfl); (case hr => first | (go_simp; done) | (go_simp; rfl)); intro gp hg w1 hbox hb; have n0_ := Aside0.mk (below_step (by repeat (first | (with_reducible first | exact HB.out | apply below_alloc | apply pw_below_drewN | apply below_drew1) | exact HB.out)) hb); have HP := Aside0.mk hbox; clear HB; have HB := n0_; clear n0_ hb hbox hg) | ((with_reducible refine gate_dst (N := 3) rfl ?_); refine box_event ?hg (N := 3) ?hd (cs := #[.int .u8 a1_0, .int .u8 a1_1, .int .u8 a1_2, .int .u8 a1_3, .int .u8 a1_4, .int .u8 a1_5, .int .u8 a1_6, .int .u8 a1_7, .int .u8 a1_8, .int .u8 a1_9, .int .u8 a1_10, .int .u8 a1_11, .int .u16 a1_12, .slice A1_13 l1_13.length c1_13]) (t := 28) ?hr ?_; (case hd => rfl); (case hg => rfl); (case hr => first | (go_simp; done) | (go_simp; rfl)); intro gq hg w2 hbox hb; have n0_ := Aside0.mk (below_step (by repeat (first | (with_reducible first | exact HB.out | apply below_alloc | apply pw_below_drewN | apply below_drew1) | exact HB.out)) hb); have n1_ := Aside0.mk (blk_below (g := gp) (o := .cells #[.int .u8 a0_0, .int .u8 a0_1, .int .u8 a0_2, .int .u8 a0_3, .int .u8 a0_4, .int .u8 a0_5, .int .u8 a0_6, .int .u8 a0_7, .int .u8 a0_8, .int .u8 a0_9, .int .u8 a0_10, .int .u8 a0_11, .int .u16 a0_12, .slice A0_13 l0_13.length c0_13] 28 (0, 0)) (by (with_reducible repeat (first | refine blk_drewN ?_ _ | refine blk_drew ?_ | refine blk_alloc ?_ _)); exact HP.out) hb); have HQ := Aside0.mk hbox; clear HB HP; have HB := n0_; have HP := n1_; clear n0_ n1_ hb hbox hg))
      have hp0 : w2.cell? ⟨gp, 0, none⟩ = some (.int .u8 a0_0) := (blk_cell HP.out 0).trans rfl
      have hq0 : w2.cell? ⟨gq, 0, none⟩ = some (.int .u8 a1_0) := (blk_cell HQ.out 0).trans rfl
      have hp1 : w2.cell? ⟨gp, 1, none⟩ = some (.int .u8 a0_1) := (blk_cell HP.out 1).trans rfl
      have hq1 : w2.cell? ⟨gq, 1, none⟩ = some (.int .u8 a1_1) := (blk_cell HQ.out 1).trans rfl
      have hp2 : w2.cell? ⟨gp, 2, none⟩ = some (.int .u8 a0_2) := (blk_cell HP.out 2).trans rfl
      have hq2 : w2.cell? ⟨gq, 2, none⟩ = some (.int .u8 a1_2) := (blk_cell HQ.out 2).trans rfl
      have hp3 : w2.cell? ⟨gp, 3, none⟩ = some (.int .u8 a0_3) := (blk_cell HP.out 3).trans rfl
      have hq3 : w2.cell? ⟨gq, 3, none⟩ = some (.int .u8 a1_3) := (blk_cell HQ.out 3).trans rfl
      have hp4 : w2.cell? ⟨gp, 4, none⟩ = some (.int .u8 a0_4) := (blk_cell HP.out 4).trans rfl
      have hq4 : w2.cell? ⟨gq, 4, none⟩ = some (.int .u8 a1_4) := (blk_cell HQ.out 4).trans rfl
      have hp5 : w2.cell? ⟨gp, 5, none⟩ = some (.int .u8 a0_5) := (blk_cell HP.out 5).trans rfl
      have hq5 : w2.cell? ⟨gq, 5, none⟩ = some (.int .u8 a1_5) := (blk_cell HQ.out 5).trans rfl
      have hp6 : w2.cell? ⟨gp, 6, none⟩ = some (.int .u8 a0_6) := (blk_cell HP.out 6).trans rfl
      have hq6 : w2.cell? ⟨gq, 6, none⟩ = some (.int .u8 a1_6) := (blk_cell HQ.out 6).trans rfl
      have hp7 : w2.cell? ⟨gp, 7, none⟩ = some (.int .u8 a0_7) := (blk_cell HP.out 7).trans rfl
      have hq7 : w2.cell? ⟨gq, 7, none⟩ = some (.int .u8 a1_7) := (blk_cell HQ.out 7).trans rfl
      have hp8 : w2.cell? ⟨gp, 8, none⟩ = some (.int .u8 a0_8) := (blk_cell HP.out 8).trans rfl
      have hq8 : w2.cell? ⟨gq, 8, none⟩ = some (.int .u8 a1_8) := (blk_cell HQ.out 8).trans rfl
      have hp9 : w2.cell? ⟨gp, 9, none⟩ = some (.int .u8 a0_9) := (blk_cell HP.out 9).trans rfl
      have hq9 : w2.cell? ⟨gq, 9, none⟩ = some (.int .u8 a1_9) := (blk_cell HQ.out 9).trans rfl
      have hp10 : w2.cell? ⟨gp, 10, none⟩ = some (.int .u8 a0_10) := (blk_cell HP.out 10).trans rfl
      have hq10 : w2.cell? ⟨gq, 10, none⟩ = some (.int .u8 a1_10) := (blk_cell HQ.out 10).trans rfl
      have hp11 : w2.cell? ⟨gp, 11, none⟩ = some (.int .u8 a0_11) := (blk_cell HP.out 11).trans rfl
      have hq11 : w2.cell? ⟨gq, 11, none⟩ = some (.int .u8 a1_11) := (blk_cell HQ.out 11).trans rfl
      have hp12 : w2.cell? ⟨gp, 12, none⟩ = some (.int .u16 a0_12) := (blk_cell HP.out 12).trans rfl
      have hq12 : w2.cell? ⟨gq, 12, none⟩ = some (.int .u16 a1_12) := (blk_cell HQ.out 12).trans rfl
      have hp13 : w2.cell? ⟨gp, 13, none⟩ = some (.slice A0_13 l0_13.length c0_13) := (blk_cell HP.out 13).trans rfl
      have hq13 : w2.cell? ⟨gq, 13, none⟩ = some (.slice A1_13 l1_13.length c1_13) := (blk_cell HQ.out 13).trans rfl
      go_wp2
      go_ret
      exact ⟨rfl, by repeat (first | (with_reducible first | exact HB.out | apply below_alloc | apply pw_below_drewN | apply below_drew1) | exact HB.out)⟩
    | true =>
      rw [if_pos rfl] at h
      by_cases c3 : a0_12 = a1_12
      · rw [if_pos c3] at h
        have c3b0 : (a0_12 == a1_12) = true := beq_iff_eq.mpr c3
        have A1 := Aside0.mk h
        clear c3 h
        go_enter Try.func15, Try.ntmps15
        go_upto_region 1 with (first | ((with_reducible refine gate_dst (N := 2) rfl ?_); refine box_event ?hg (N := 2) ?hd (cs := #[.int .u8 a0_0, .int .u8 a0_1, .int .u8 a0_2, .int .u8 a0_3, .int .u8 a0_4, .int .u8 a0_5, .int .u8 a0_6, .int .u8 a0_7, .int .u8 a0_8, .int .u8 a0_9, .int .u8 a0_10, .int .u8 a0_11, .int .u16 a0_12, .slice A0_13 l0_13.length c0_13]) (t := 28) ?hr ?_; (case hd => rfl); (case hg => rfl); (case hr => first | (go_simp; done) | (go_simp; rfl)); intro gp hg w1 hbox hb; have n0_ := Aside0.mk (below_step (by repeat (first | (with_reducible first | exact HB.out | apply below_alloc | apply pw_below_drewN | apply below_drew1) | exact HB.out)) hb); have HP := Aside0.mk hbox; clear HB; have HB := n0_; clear n0_ hb hbox hg) | ((with_reducible refine gate_dst (N := 3) rfl ?_); refine box_event ?hg (N := 3) ?hd (cs := #[.int .u8 a1_0, .int .u8 a1_1, .int .u8 a1_2, .int .u8 a1_3, .int .u8 a1_4, .int .u8 a1_5, .int .u8 a1_6, .int .u8 a1_7, .int .u8 a1_8, .int .u8 a1_9, .int .u8 a1_10, .int .u8 a1_11, .int .u16 a1_12, .slice A1_13 l1_13.length c1_13]) (t := 28) ?hr ?_; (case hd => rfl); (case hg => rfl); (case hr => first | (go_simp; done) | (go_simp; rfl)); intro gq hg w2 hbox hb; have n0_ := Aside0.mk (below_step (by repeat (first | (with_reducible first | exact HB.out | apply below_alloc | apply pw_below_drewN | apply below_drew1) | exact HB.out)) hb); have n1_ := Aside0.mk (blk_below (g := gp) (o := .cells #[.int .u8 a0_0, .int .u8 a0_1, .int .u8 a0_2, .int .u8 a0_3, .int .u8 a0_4, .int .u8 a0_5, .int .u8 a0_6, .int .u8 a0_7, .int .u8 a0_8, .int .u8 a0_9, .int .u8 a0_10, .int .u8 a0_11, .int .u16 a0_12, .slice A0_13 l0_13.length c0_13] 28 (0, 0)) (by (with_reducible repeat (first | refine blk_drewN ?_ _ | refine blk_drew ?_ | refine blk_alloc ?_ _)); exact HP.out) hb); have HQ := Aside0.mk hbox; clear HB HP; have HB := n0_; have HP := n1_; clear n0_ n1_ hb hbox hg))
        have hp0 : w2.cell? ⟨gp, 0, none⟩ = some (.int .u8 a0_0) := (blk_cell HP.out 0).trans rfl
        have hq0 : w2.cell? ⟨gq, 0, none⟩ = some (.int .u8 a1_0) := (blk_cell HQ.out 0).trans rfl
        have hp1 : w2.cell? ⟨gp, 1, none⟩ = some (.int .u8 a0_1) := (blk_cell HP.out 1).trans rfl
        have hq1 : w2.cell? ⟨gq, 1, none⟩ = some (.int .u8 a1_1) := (blk_cell HQ.out 1).trans rfl
        have hp2 : w2.cell? ⟨gp, 2, none⟩ = some (.int .u8 a0_2) := (blk_cell HP.out 2).trans rfl
        have hq2 : w2.cell? ⟨gq, 2, none⟩ = some (.int .u8 a1_2) := (blk_cell HQ.out 2).trans rfl
        have hp3 : w2.cell? ⟨gp, 3, none⟩ = some (.int .u8 a0_3) := (blk_cell HP.out 3).trans rfl
        have hq3 : w2.cell? ⟨gq, 3, none⟩ = some (.int .u8 a1_3) := (blk_cell HQ.out 3).trans rfl
        have hp4 : w2.cell? ⟨gp, 4, none⟩ = some (.int .u8 a0_4) := (blk_cell HP.out 4).trans rfl
        have hq4 : w2.cell? ⟨gq, 4, none⟩ = some (.int .u8 a1_4) := (blk_cell HQ.out 4).trans rfl
        have hp5 : w2.cell? ⟨gp, 5, none⟩ = some (.int .u8 a0_5) := (blk_cell HP.out 5).trans rfl
        have hq5 : w2.cell? ⟨gq, 5, none⟩ = some (.int .u8 a1_5) := (blk_cell HQ.out 5).trans rfl
        have hp6 : w2.cell? ⟨gp, 6, none⟩ = some (.int .u8 a0_6) := (blk_cell HP.out 6).trans rfl
        have hq6 : w2.cell? ⟨gq, 6, none⟩ = some (.int .u8 a1_6) := (blk_cell HQ.out 6).trans rfl
        have hp7 : w2.cell? ⟨gp, 7, none⟩ = some (.int .u8 a0_7) := (blk_cell HP.out 7).trans rfl
        have hq7 : w2.cell? ⟨gq, 7, none⟩ = some (.int .u8 a1_7) := (blk_cell HQ.out 7).trans rfl
        have hp8 : w2.cell? ⟨gp, 8, none⟩ = some (.int .u8 a0_8) := (blk_cell HP.out 8).trans rfl
        have hq8 : w2.cell? ⟨gq, 8, none⟩ = some (.int .u8 a1_8) := (blk_cell HQ.out 8).trans rfl
        have hp9 : w2.cell? ⟨gp, 9, none⟩ = some (.int .u8 a0_9) := (blk_cell HP.out 9).trans rfl
        have hq9 : w2.cell? ⟨gq, 9, none⟩ = some (.int .u8 a1_9) := (blk_cell HQ.out 9).trans rfl
        have hp10 : w2.cell? ⟨gp, 10, none⟩ = some (.int .u8 a0_10) := (blk_cell HP.out 10).trans rfl
        have hq10 : w2.cell? ⟨gq, 10, none⟩ = some (.int .u8 a1_10) := (blk_cell HQ.out 10).trans rfl
        have hp11 : w2.cell? ⟨gp, 11, none⟩ = some (.int .u8 a0_11) := (blk_cell HP.out 11).trans rfl
        have hq11 : w2.cell? ⟨gq, 11, none⟩ = some (.int .u8 a1_11) := (blk_cell HQ.out 11).trans rfl
        have hp12 : w2.cell? ⟨gp, 12, none⟩ = some (.int .u16 a0_12) := (blk_cell HP.out 12).trans rfl
        have hq12 : w2.cell? ⟨gq, 12, none⟩ = some (.int .u16 a1_12) := (blk_cell HQ.out 12).trans rfl
        have hp13 : w2.cell? ⟨gp, 13, none⟩ = some (.slice A0_13 l0_13.length c0_13) := (blk_cell HP.out 13).trans rfl
        have hq13 : w2.cell? ⟨gq, 13, none⟩ = some (.slice A1_13 l1_13.length c1_13) := (blk_cell HQ.out 13).trans rfl
        go_wp2_with fail
        refine (lychhelp_Bytes.calls _ _ l0_13 _ _ l1_13 r _ (Kd.C_below HR0.out (by repeat (first | (with_reducible first | exact HB.out | apply below_alloc | apply pw_below_drewN | apply below_drew1) | exact HB.out))) HC0.out (Kd.C_below HR1.out (by repeat (first | (with_reducible first | exact HB.out | apply below_alloc | apply pw_below_drewN | apply below_drew1) | exact HB.out))) HC1.out A1.out).mono ?_
        rintro e w3 ⟨rfl, ⟨nd, rfl⟩⟩
        (try dsimp only)
        go_wp2
        go_ret
        exact ⟨rfl, by repeat (first | (with_reducible first | exact HB.out | apply below_alloc | apply pw_below_drewN | apply below_drew1) | exact HB.out)⟩
      · rw [if_neg c3] at h
        have c3b0 : (a0_12 == a1_12) = false := beq_eq_false_iff_ne.mpr c3
        clear c3
        obtain rfl := Option.some.inj h
        go_enter Try.func15, Try.ntmps15
        go_upto_region 1 with (first | ((with_reducible refine gate_dst (N := 2) rfl ?_); refine box_event ?hg (N := 2) ?hd (cs := #[.int .u8 a0_0, .int .u8 a0_1, .int .u8 a0_2, .int .u8 a0_3, .int .u8 a0_4, .int .u8 a0_5, .int .u8 a0_6, .int .u8 a0_7, .int .u8 a0_8, .int .u8 a0_9, .int .u8 a0_10, .int .u8 a0_11, .int .u16 a0_12, .slice A0_13 l0_13.length c0_13]) (t := 28) ?hr ?_; (case hd => rfl); (case hg => rfl); (case hr => first | (go_simp; done) | (go_simp; rfl)); intro gp hg w1 hbox hb; have n0_ := Aside0.mk (below_step (by repeat (first | (with_reducible first | exact HB.out | apply below_alloc | apply pw_below_drewN | apply below_drew1) | exact HB.out)) hb); have HP := Aside0.mk hbox; clear HB; have HB := n0_; clear n0_ hb hbox hg) | ((with_reducible refine gate_dst (N := 3) rfl ?_); refine box_event ?hg (N := 3) ?hd (cs := #[.int .u8 a1_0, .int .u8 a1_1, .int .u8 a1_2, .int .u8 a1_3, .int .u8 a1_4, .int .u8 a1_5, .int .u8 a1_6, .int .u8 a1_7, .int .u8 a1_8, .int .u8 a1_9, .int .u8 a1_10, .int .u8 a1_11, .int .u16 a1_12, .slice A1_13 l1_13.length c1_13]) (t := 28) ?hr ?_; (case hd => rfl); (case hg => rfl); (case hr => first | (go_simp; done) | (go_simp; rfl)); intro gq hg w2 hbox hb; have n0_ := Aside0.mk (below_step (by repeat (first | (with_reducible first | exact HB.out | apply below_alloc | apply pw_below_drewN | apply below_drew1) | exact HB.out)) hb); have n1_ := Aside0.mk (blk_below (g := gp) (o := .cells #[.int .u8 a0_0, .int .u8 a0_1, .int .u8 a0_2, .int .u8 a0_3, .int .u8 a0_4, .int .u8 a0_5, .int .u8 a0_6, .int .u8 a0_7, .int .u8 a0_8, .int .u8 a0_9, .int .u8 a0_10, .int .u8 a0_11, .int .u16 a0_12, .slice A0_13 l0_13.length c0_13] 28 (0, 0)) (by (with_reducible repeat (first | refine blk_drewN ?_ _ | refine blk_drew ?_ | refine blk_alloc ?_ _)); exact HP.out) hb); have HQ := Aside0.mk hbox; clear HB HP; have HB := n0_; have HP := n1_; clear n0_ n1_ hb hbox hg))
        have hp0 : w2.cell? ⟨gp, 0, none⟩ = some (.int .u8 a0_0) := (blk_cell HP.out 0).trans rfl
        have hq0 : w2.cell? ⟨gq, 0, none⟩ = some (.int .u8 a1_0) := (blk_cell HQ.out 0).trans rfl
        have hp1 : w2.cell? ⟨gp, 1, none⟩ = some (.int .u8 a0_1) := (blk_cell HP.out 1).trans rfl
        have hq1 : w2.cell? ⟨gq, 1, none⟩ = some (.int .u8 a1_1) := (blk_cell HQ.out 1).trans rfl
        have hp2 : w2.cell? ⟨gp, 2, none⟩ = some (.int .u8 a0_2) := (blk_cell HP.out 2).trans rfl
        have hq2 : w2.cell? ⟨gq, 2, none⟩ = some (.int .u8 a1_2) := (blk_cell HQ.out 2).trans rfl
        have hp3 : w2.cell? ⟨gp, 3, none⟩ = some (.int .u8 a0_3) := (blk_cell HP.out 3).trans rfl
        have hq3 : w2.cell? ⟨gq, 3, none⟩ = some (.int .u8 a1_3) := (blk_cell HQ.out 3).trans rfl
        have hp4 : w2.cell? ⟨gp, 4, none⟩ = some (.int .u8 a0_4) := (blk_cell HP.out 4).trans rfl
        have hq4 : w2.cell? ⟨gq, 4, none⟩ = some (.int .u8 a1_4) := (blk_cell HQ.out 4).trans rfl
        have hp5 : w2.cell? ⟨gp, 5, none⟩ = some (.int .u8 a0_5) := (blk_cell HP.out 5).trans rfl
        have hq5 : w2.cell? ⟨gq, 5, none⟩ = some (.int .u8 a1_5) := (blk_cell HQ.out 5).trans rfl
        have hp6 : w2.cell? ⟨gp, 6, none⟩ = some (.int .u8 a0_6) := (blk_cell HP.out 6).trans rfl
        have hq6 : w2.cell? ⟨gq, 6, none⟩ = some (.int .u8 a1_6) := (blk_cell HQ.out 6).trans rfl
        have hp7 : w2.cell? ⟨gp, 7, none⟩ = some (.int .u8 a0_7) := (blk_cell HP.out 7).trans rfl
        have hq7 : w2.cell? ⟨gq, 7, none⟩ = some (.int .u8 a1_7) := (blk_cell HQ.out 7).trans rfl
        have hp8 : w2.cell? ⟨gp, 8, none⟩ = some (.int .u8 a0_8) := (blk_cell HP.out 8).trans rfl
        have hq8 : w2.cell? ⟨gq, 8, none⟩ = some (.int .u8 a1_8) := (blk_cell HQ.out 8).trans rfl
        have hp9 : w2.cell? ⟨gp, 9, none⟩ = some (.int .u8 a0_9) := (blk_cell HP.out 9).trans rfl
        have hq9 : w2.cell? ⟨gq, 9, none⟩ = some (.int .u8 a1_9) := (blk_cell HQ.out 9).trans rfl
        have hp10 : w2.cell? ⟨gp, 10, none⟩ = some (.int .u8 a0_10) := (blk_cell HP.out 10).trans rfl
        have hq10 : w2.cell? ⟨gq, 10, none⟩ = some (.int .u8 a1_10) := (blk_cell HQ.out 10).trans rfl
        have hp11 : w2.cell? ⟨gp, 11, none⟩ = some (.int .u8 a0_11) := (blk_cell HP.out 11).trans rfl
        have hq11 : w2.cell? ⟨gq, 11, none⟩ = some (.int .u8 a1_11) := (blk_cell HQ.out 11).trans rfl
        have hp12 : w2.cell? ⟨gp, 12, none⟩ = some (.int .u16 a0_12) := (blk_cell HP.out 12).trans rfl
        have hq12 : w2.cell? ⟨gq, 12, none⟩ = some (.int .u16 a1_12) := (blk_cell HQ.out 12).trans rfl
        have hp13 : w2.cell? ⟨gp, 13, none⟩ = some (.slice A0_13 l0_13.length c0_13) := (blk_cell HP.out 13).trans rfl
        have hq13 : w2.cell? ⟨gq, 13, none⟩ = some (.slice A1_13 l1_13.length c1_13) := (blk_cell HQ.out 13).trans rfl
        go_wp2
        go_ret
        exact ⟨rfl, by repeat (first | (with_reducible first | exact HB.out | apply below_alloc | apply pw_below_drewN | apply below_drew1) | exact HB.out)⟩

end Go.Proofs.Ytnfgmcjgmccggaa.PA
