-- written by a patched print
import Derived.Test.YtnfgmcjgmccggaaPAx0
import Derived.Test.YtnfgmcjgmccggaaPAx5
namespace Go.Proofs.Ytnfgmcjgmccggaa.PA
open Go.RowKit Go.Proofs.YtnfgmcjgmccggaaW.PrintWords Go.Proofs.YtnfgmcjgmccggaaW.PrintLast Go.Proofs.YtnfgmcjgmccggaaW.PrintMore
attribute [local go_sem] max2_int min2_int max_two min_two max_three min_three max_four min_four   -- for this text's walks alone
set_option linter.unusedVariables false
set_option linter.unusedSimpArgs false

/-! ### lychref1_Eth: function 14 -/
def lychref1_Eth.cs (l0 : List Int) (i : Nat) : Array Value := #[.int .u8 (if 0 < i then rd l0 0 else 0), .int .u8 (if 1 < i then rd l0 1 else 0), .int .u8 (if 2 < i then rd l0 2 else 0), .int .u8 (if 3 < i then rd l0 3 else 0), .int .u8 (if 4 < i then rd l0 4 else 0), .int .u8 (if 5 < i then rd l0 5 else 0), .int .u8 (if 0 < i then rd l0 6 else 0), .int .u8 (if 1 < i then rd l0 7 else 0), .int .u8 (if 2 < i then rd l0 8 else 0), .int .u8 (if 3 < i then rd l0 9 else 0), .int .u8 (if 4 < i then rd l0 10 else 0), .int .u8 (if 5 < i then rd l0 11 else 0), .int .u16 0, .slice none 0 0]
theorem lychref1_Eth.cs_step (l0 : List Int) (i : Nat) (h : i < 6) : ((lychref1_Eth.cs l0 i).setIfInBounds i (.int .u8 (rd l0 (i : Int)))).setIfInBounds (6 + i) (.int .u8 (rd l0 (6 + (i : Int)))) = lychref1_Eth.cs l0 (i + 1) := by
  match i, h with
  | 0, _ => rfl
  | 1, _ => rfl
  | 2, _ => rfl
  | 3, _ => rfl
  | 4, _ => rfl
  | 5, _ => rfl
theorem lychref1_Eth.cs_old (l0 : List Int) (i : Nat) (h : i < 6) : (lychref1_Eth.cs l0 i)[i]? = some (.int .u8 0) ∧ ((lychref1_Eth.cs l0 i).setIfInBounds i (.int .u8 (rd l0 (i : Int))))[6 + i]? = some (.int .u8 0) := by
  match i, h with
  | 0, _ => exact ⟨rfl, rfl⟩
  | 1, _ => exact ⟨rfl, rfl⟩
  | 2, _ => exact ⟨rfl, rfl⟩
  | 3, _ => exact ⟨rfl, rfl⟩
  | 4, _ => exact ⟨rfl, rfl⟩
  | 5, _ => exact ⟨rfl, rfl⟩
def lychref1_Eth.T9 : Bool × List (List Nat × List Nat) := (true, [([], []), ([], []), ([], []), ([], []), ([2, 3], [2, 3]), ([4], [4]), ([], []), ([], []), ([7], [7]), ([6, 8], [6, 8]), ([9], [9]), ([], []), ([11, 0, 0, 2, 3, 4, 5], [0, 11]), ([12, 5, 0, 2, 3, 4, 5], [5, 12]), ([], []), ([14, 1, 0, 1, 2, 3, 4, 5, 6, 7, 8, 9, 10, 11, 12, 13], [1, 14]), ([15, 10, 13, 0, 1, 2, 3, 4, 5, 6, 7, 8, 9, 10, 11, 12, 13], [10, 15])])
def lychref1_Eth.B9 : List Nat := [0, 0, 0, 0, 12, 28, 0, 0, 128, 448, 960, 0, 2109, 6205, 0, 32767, 65535]
theorem lychref1_Eth.tab9 : rtab .any (opsOf Try.f14 9) = lychref1_Eth.T9 := by kernel_rfl
theorem lychref1_Eth.bits9 : waitsOk lychref1_Eth.T9.2 lychref1_Eth.B9 = true := by kernel_rfl
def lychref1_Eth.T10 : Bool × List (List Nat × List Nat) := (true, [([], []), ([0], [0]), ([], []), ([], []), ([3], [3]), ([2, 4, 1], [2, 4]), ([0, 1], []), ([6, 1, 5, 0, 1], [1, 6]), ([0, 1, 2, 3, 4, 5, 6, 7], []), ([8, 5, 7, 0, 1, 2, 3, 4, 5, 6, 7], [5, 8])])
def lychref1_Eth.B10 : List Nat := [0, 1, 0, 0, 8, 31, 3, 127, 255, 511]
theorem lychref1_Eth.tab10 : rtab .any (opsOf Try.f14 10) = lychref1_Eth.T10 := by kernel_rfl
theorem lychref1_Eth.bits10 : waitsOk lychref1_Eth.T10.2 lychref1_Eth.B10 = true := by kernel_rfl
def lychref1_Eth.f (l0 : List Int) : Option (Int × Int × Int × Int × Int × Int × Int × Int × Int × Int × Int × Int × Int × List Int × Int) := if (l0.length : Int) > 1600 then some (0, 0, 0, 0, 0, 0, 0, 0, 0, 0, 0, 0, 0, [], 23) else if (l0.length : Int) < 14 then some (0, 0, 0, 0, 0, 0, 0, 0, 0, 0, 0, 0, 0, [], 20) else (lychref1_Get16.f l0 12).bind fun t => (lychref1_cut.f l0 14 (l0.length : Int)).bind fun b => some (rd l0 0, rd l0 1, rd l0 2, rd l0 3, rd l0 4, rd l0 5, rd l0 6, rd l0 7, rd l0 8, rd l0 9, rd l0 10, rd l0 11, t, b, 0)
set_option maxHeartbeats 8000000 in
set_option maxRecDepth 100000 in
theorem lychref1_Eth.calls (A0 : Option Addr) (c0 : Nat) (l0 : List Int) (r1 : Int) (r2 : Int) (r3 : Int) (r4 : Int) (r5 : Int) (r6 : Int) (r7 : Int) (r8 : Int) (r9 : Int) (r10 : Int) (r11 : Int) (r12 : Int) (r13 : Int) (r14 : List Int) (r15 : Int) (w : World) (hr0 : Kd.C (Kd.int .u8) w A0 l0.length l0) (hc0 : l0.length ≤ c0) (h : lychref1_Eth.f l0 = some (r1, r2, r3, r4, r5, r6, r7, r8, r9, r10, r11, r12, r13, r14, r15)) :
    Calls Try.prog 14 #[.slice A0 l0.length c0] w fun e w' => ∃ v13_ : Value, e = .returned (.tuple #[.agg #[.int .u8 r1, .int .u8 r2, .int .u8 r3, .int .u8 r4, .int .u8 r5, .int .u8 r6, .int .u8 r7, .int .u8 r8, .int .u8 r9, .int .u8 r10, .int .u8 r11, .int .u8 r12, .int .u16 r13, v13_], .int .i64 r15]) ∧ Kd.R (Kd.int .u8) 5 w' w.heap.size (fun _ => True) v13_ r14 ∧ Below w.heap.size w w' := by
  have hu28 := Try.underlying28
  have HR0 := Aside0.mk hr0
  have HC0 := Aside0.mk hc0
  clear hr0 hc0
  have HB := Aside0.mk (Below.refl w.heap.size w)
  unfold lychref1_Eth.f at h
  by_cases c1 : (l0.length : Int) > 1600
  · rw [if_pos c1] at h
    simp only [Option.some.injEq, Prod.mk.injEq] at h
    obtain ⟨rfl, rfl, rfl, rfl, rfl, rfl, rfl, rfl, rfl, rfl, rfl, rfl, rfl, rfl, rfl⟩ := h
    have c1b : decide (1600 < (l0.length : Int)) = true := decide_eq_true c1
    clear c1
    go_enter Try.func14, Try.ntmps14
    go_upto_region 2 with (first | ((with_reducible refine gate_dst (N := 2) rfl ?_); refine box_event ?hg (N := 2) ?hd (cs := #[.int .u8 0, .int .u8 0, .int .u8 0, .int .u8 0, .int .u8 0, .int .u8 0, .int .u8 0, .int .u8 0, .int .u8 0, .int .u8 0, .int .u8 0, .int .u8 0, .int .u16 0, .slice none 0 0]) (t := 28) ?hr ?_; (case hd => rfl); (case hg => rfl); (case hr => first | (go_simp; done) | (go_simp; rfl)); intro gp hg w1 hbox hb; have n0_ := Aside0.mk (below_step (by repeat (first | (with_reducible first | exact HB.out | apply below_alloc | apply pw_below_drewN | apply below_drew1) | exact HB.out)) hb); have HP := Aside0.mk hbox; have GP := Aside0.mk ((by rw [hg]; exact (below_size (by repeat (first | (with_reducible first | exact HB.out | apply below_alloc | apply pw_below_drewN | apply below_drew1) | exact HB.out)))) : w.heap.size ≤ gp); clear HB; have HB := n0_; clear n0_ hb hbox hg))
    have hs0 : w1.cell? ⟨gp, 0, none⟩ = some (.int .u8 0) := (blk_cell HP.out 0).trans rfl
    have hfs0 := blk_frozen HP.out 0
    have hs1 : w1.cell? ⟨gp, 1, none⟩ = some (.int .u8 0) := (blk_cell HP.out 1).trans rfl
    have hfs1 := blk_frozen HP.out 1
    have hs2 : w1.cell? ⟨gp, 2, none⟩ = some (.int .u8 0) := (blk_cell HP.out 2).trans rfl
    have hfs2 := blk_frozen HP.out 2
    have hs3 : w1.cell? ⟨gp, 3, none⟩ = some (.int .u8 0) := (blk_cell HP.out 3).trans rfl
    have hfs3 := blk_frozen HP.out 3
    have hs4 : w1.cell? ⟨gp, 4, none⟩ = some (.int .u8 0) := (blk_cell HP.out 4).trans rfl
    have hfs4 := blk_frozen HP.out 4
    have hs5 : w1.cell? ⟨gp, 5, none⟩ = some (.int .u8 0) := (blk_cell HP.out 5).trans rfl
    have hfs5 := blk_frozen HP.out 5
    have hs6 : w1.cell? ⟨gp, 6, none⟩ = some (.int .u8 0) := (blk_cell HP.out 6).trans rfl
    have hfs6 := blk_frozen HP.out 6
    have hs7 : w1.cell? ⟨gp, 7, none⟩ = some (.int .u8 0) := (blk_cell HP.out 7).trans rfl
    have hfs7 := blk_frozen HP.out 7
    have hs8 : w1.cell? ⟨gp, 8, none⟩ = some (.int .u8 0) := (blk_cell HP.out 8).trans rfl
    have hfs8 := blk_frozen HP.out 8
    have hs9 : w1.cell? ⟨gp, 9, none⟩ = some (.int .u8 0) := (blk_cell HP.out 9).trans rfl
    have hfs9 := blk_frozen HP.out 9
    have hs10 : w1.cell? ⟨gp, 10, none⟩ = some (.int .u8 0) := (blk_cell HP.out 10).trans rfl
    have hfs10 := blk_frozen HP.out 10
    have hs11 : w1.cell? ⟨gp, 11, none⟩ = some (.int .u8 0) := (blk_cell HP.out 11).trans rfl
    have hfs11 := blk_frozen HP.out 11
    have hs12 : w1.cell? ⟨gp, 12, none⟩ = some (.int .u16 0) := (blk_cell HP.out 12).trans rfl
    have hfs12 := blk_frozen HP.out 12
    have hs13 : w1.cell? ⟨gp, 13, none⟩ = some (.slice none 0 0) := (blk_cell HP.out 13).trans rfl
    have hfs13 := blk_frozen HP.out 13
    go_wp2
    (try simp only [Exit.inBlock, Exit.then])
    refine bodyPost_ret (results_ct rfl _ _ gp 28 #[.int .u8 0, .int .u8 0, .int .u8 0, .int .u8 0, .int .u8 0, .int .u8 0, .int .u8 0, .int .u8 0, .int .u8 0, .int .u8 0, .int .u8 0, .int .u8 0, .int .u16 0, .slice none 0 0] (0, 0) _ rfl (blk_put (cs' := #[.int .u8 0, .int .u8 0, .int .u8 0, .int .u8 0, .int .u8 0, .int .u8 0, .int .u8 0, .int .u8 0, .int .u8 0, .int .u8 0, .int .u8 0, .int .u8 0, .int .u16 0, .slice none 0 0]) (blk_put (cs' := #[.int .u8 0, .int .u8 0, .int .u8 0, .int .u8 0, .int .u8 0, .int .u8 0, .int .u8 0, .int .u8 0, .int .u8 0, .int .u8 0, .int .u8 0, .int .u8 0, .int .u16 0, .slice none 0 0]) (blk_put (cs' := #[.int .u8 0, .int .u8 0, .int .u8 0, .int .u8 0, .int .u8 0, .int .u8 0, .int .u8 0, .int .u8 0, .int .u8 0, .int .u8 0, .int .u8 0, .int .u8 0, .int .u16 0, .slice none 0 0]) (blk_put (cs' := #[.int .u8 0, .int .u8 0, .int .u8 0, .int .u8 0, .int .u8 0, .int .u8 0, .int .u8 0, .int .u8 0, .int .u8 0, .int .u8 0, .int .u8 0, .int .u8 0, .int .u16 0, .slice none 0 0]) (blk_put (cs' := #[.int .u8 0, .int .u8 0, .int .u8 0, .int .u8 0, .int .u8 0, .int .u8 0, .int .u8 0, .int .u8 0, .int .u8 0, .int .u8 0, .int .u8 0, .int .u8 0, .int .u16 0, .slice none 0 0]) (blk_put (cs' := #[.int .u8 0, .int .u8 0, .int .u8 0, .int .u8 0, .int .u8 0, .int .u8 0, .int .u8 0, .int .u8 0, .int .u8 0, .int .u8 0, .int .u8 0, .int .u8 0, .int .u16 0, .slice none 0 0]) (blk_put (cs' := #[.int .u8 0, .int .u8 0, .int .u8 0, .int .u8 0, .int .u8 0, .int .u8 0, .int .u8 0, .int .u8 0, .int .u8 0, .int .u8 0, .int .u8 0, .int .u8 0, .int .u16 0, .slice none 0 0]) (blk_put (cs' := #[.int .u8 0, .int .u8 0, .int .u8 0, .int .u8 0, .int .u8 0, .int .u8 0, .int .u8 0, .int .u8 0, .int .u8 0, .int .u8 0, .int .u8 0, .int .u8 0, .int .u16 0, .slice none 0 0]) (blk_put (cs' := #[.int .u8 0, .int .u8 0, .int .u8 0, .int .u8 0, .int .u8 0, .int .u8 0, .int .u8 0, .int .u8 0, .int .u8 0, .int .u8 0, .int .u8 0, .int .u8 0, .int .u16 0, .slice none 0 0]) (blk_put (cs' := #[.int .u8 0, .int .u8 0, .int .u8 0, .int .u8 0, .int .u8 0, .int .u8 0, .int .u8 0, .int .u8 0, .int .u8 0, .int .u8 0, .int .u8 0, .int .u8 0, .int .u16 0, .slice none 0 0]) (blk_put (cs' := #[.int .u8 0, .int .u8 0, .int .u8 0, .int .u8 0, .int .u8 0, .int .u8 0, .int .u8 0, .int .u8 0, .int .u8 0, .int .u8 0, .int .u8 0, .int .u8 0, .int .u16 0, .slice none 0 0]) (blk_put (cs' := #[.int .u8 0, .int .u8 0, .int .u8 0, .int .u8 0, .int .u8 0, .int .u8 0, .int .u8 0, .int .u8 0, .int .u8 0, .int .u8 0, .int .u8 0, .int .u8 0, .int .u16 0, .slice none 0 0]) (blk_put (cs' := #[.int .u8 0, .int .u8 0, .int .u8 0, .int .u8 0, .int .u8 0, .int .u8 0, .int .u8 0, .int .u8 0, .int .u8 0, .int .u8 0, .int .u8 0, .int .u8 0, .int .u16 0, .slice none 0 0]) (blk_put (cs' := #[.int .u8 0, .int .u8 0, .int .u8 0, .int .u8 0, .int .u8 0, .int .u8 0, .int .u8 0, .int .u8 0, .int .u8 0, .int .u8 0, .int .u8 0, .int .u8 0, .int .u16 0, .slice none 0 0]) HP.out 0 (.int .u8 0) rfl) 1 (.int .u8 0) rfl) 2 (.int .u8 0) rfl) 3 (.int .u8 0) rfl) 4 (.int .u8 0) rfl) 5 (.int .u8 0) rfl) 6 (.int .u8 0) rfl) 7 (.int .u8 0) rfl) 8 (.int .u8 0) rfl) 9 (.int .u8 0) rfl) 10 (.int .u8 0) rfl) 11 (.int .u8 0) rfl) 12 (.int .u16 0) rfl) 13 (.slice none 0 0) rfl) Try.underlying28 rfl (by kernel_rfl)) rfl ?_
    exact ⟨_, rfl, Kd.R_nil _ _ _ _ _, (Below.setCell (p := ⟨gp, 13, none⟩) (Below.setCell (p := ⟨gp, 12, none⟩) (Below.setCell (p := ⟨gp, 11, none⟩) (Below.setCell (p := ⟨gp, 10, none⟩) (Below.setCell (p := ⟨gp, 9, none⟩) (Below.setCell (p := ⟨gp, 8, none⟩) (Below.setCell (p := ⟨gp, 7, none⟩) (Below.setCell (p := ⟨gp, 6, none⟩) (Below.setCell (p := ⟨gp, 5, none⟩) (Below.setCell (p := ⟨gp, 4, none⟩) (Below.setCell (p := ⟨gp, 3, none⟩) (Below.setCell (p := ⟨gp, 2, none⟩) (Below.setCell (p := ⟨gp, 1, none⟩) (Below.setCell (p := ⟨gp, 0, none⟩) HB.out GP.out (.int .u8 0)) GP.out (.int .u8 0)) GP.out (.int .u8 0)) GP.out (.int .u8 0)) GP.out (.int .u8 0)) GP.out (.int .u8 0)) GP.out (.int .u8 0)) GP.out (.int .u8 0)) GP.out (.int .u8 0)) GP.out (.int .u8 0)) GP.out (.int .u8 0)) GP.out (.int .u8 0)) GP.out (.int .u16 0)) GP.out (.slice none 0 0))⟩
  · rw [if_neg c1] at h
    have c1b : decide (1600 < (l0.length : Int)) = false := decide_eq_false c1
    by_cases c2 : (l0.length : Int) < 14
    · rw [if_pos c2] at h
      simp only [Option.some.injEq, Prod.mk.injEq] at h
      obtain ⟨rfl, rfl, rfl, rfl, rfl, rfl, rfl, rfl, rfl, rfl, rfl, rfl, rfl, rfl, rfl⟩ := h
      have c2b : decide ((l0.length : Int) < 14) = true := decide_eq_true c2
      clear c1 c2
      go_enter Try.func14, Try.ntmps14
      go_upto_region 4 with (first | ((with_reducible refine gate_dst (N := 2) rfl ?_); refine box_event ?hg (N := 2) ?hd (cs := #[.int .u8 0, .int .u8 0, .int .u8 0, .int .u8 0, .int .u8 0, .int .u8 0, .int .u8 0, .int .u8 0, .int .u8 0, .int .u8 0, .int .u8 0, .int .u8 0, .int .u16 0, .slice none 0 0]) (t := 28) ?hr ?_; (case hd => rfl); (case hg => rfl); (case hr => first | (go_simp; done) | (go_simp; rfl)); intro gp hg w1 hbox hb; have n0_ := Aside0.mk (below_step (by repeat (first | (with_reducible first | exact HB.out | apply below_alloc | apply pw_below_drewN | apply below_drew1) | exact HB.out)) hb); have HP := Aside0.mk hbox; have GP := Aside0.mk ((by rw [hg]; exact (below_size (by repeat (first | (with_reducible first | exact HB.out | apply below_alloc | apply pw_below_drewN | apply below_drew1) | exact HB.out)))) : w.heap.size ≤ gp); clear HB; have HB := n0_; clear n0_ hb hbox hg))
      have hs0 : w1.cell? ⟨gp, 0, none⟩ = some (.int .u8 0) := (blk_cell HP.out 0).trans rfl
      have hfs0 := blk_frozen HP.out 0
      have hs1 : w1.cell? ⟨gp, 1, none⟩ = some (.int .u8 0) := (blk_cell HP.out 1).trans rfl
      have hfs1 := blk_frozen HP.out 1
      have hs2 : w1.cell? ⟨gp, 2, none⟩ = some (.int .u8 0) := (blk_cell HP.out 2).trans rfl
      have hfs2 := blk_frozen HP.out 2
      have hs3 : w1.cell? ⟨gp, 3, none⟩ = some (.int .u8 0) := (blk_cell HP.out 3).trans rfl
      have hfs3 := blk_frozen HP.out 3
      have hs4 : w1.cell? ⟨gp, 4, none⟩ = some (.int .u8 0) := (blk_cell HP.out 4).trans rfl
      have hfs4 := blk_frozen HP.out 4
      have hs5 : w1.cell? ⟨gp, 5, none⟩ = some (.int .u8 0) := (blk_cell HP.out 5).trans rfl
      have hfs5 := blk_frozen HP.out 5
      have hs6 : w1.cell? ⟨gp, 6, none⟩ = some (.int .u8 0) := (blk_cell HP.out 6).trans rfl
      have hfs6 := blk_frozen HP.out 6
      have hs7 : w1.cell? ⟨gp, 7, none⟩ = some (.int .u8 0) := (blk_cell HP.out 7).trans rfl
      have hfs7 := blk_frozen HP.out 7
      have hs8 : w1.cell? ⟨gp, 8, none⟩ = some (.int .u8 0) := (blk_cell HP.out 8).trans rfl
      have hfs8 := blk_frozen HP.out 8
      have hs9 : w1.cell? ⟨gp, 9, none⟩ = some (.int .u8 0) := (blk_cell HP.out 9).trans rfl
      have hfs9 := blk_frozen HP.out 9
      have hs10 : w1.cell? ⟨gp, 10, none⟩ = some (.int .u8 0) := (blk_cell HP.out 10).trans rfl
      have hfs10 := blk_frozen HP.out 10
      have hs11 : w1.cell? ⟨gp, 11, none⟩ = some (.int .u8 0) := (blk_cell HP.out 11).trans rfl
      have hfs11 := blk_frozen HP.out 11
      have hs12 : w1.cell? ⟨gp, 12, none⟩ = some (.int .u16 0) := (blk_cell HP.out 12).trans rfl
      have hfs12 := blk_frozen HP.out 12
      have hs13 : w1.cell? ⟨gp, 13, none⟩ = some (.slice none 0 0) := (blk_cell HP.out 13).trans rfl
      have hfs13 := blk_frozen HP.out 13
      go_wp2
      (try simp only [Exit.inBlock, Exit.then])
      refine bodyPost_ret (results_ct rfl _ _ gp 28 #[.int .u8 0, .int .u8 0, .int .u8 0, .int .u8 0, .int .u8 0, .int .u8 0, .int .u8 0, .int .u8 0, .int .u8 0, .int .u8 0, .int .u8 0, .int .u8 0, .int .u16 0, .slice none 0 0] (0, 0) _ rfl (blk_put (cs' := #[.int .u8 0, .int .u8 0, .int .u8 0, .int .u8 0, .int .u8 0, .int .u8 0, .int .u8 0, .int .u8 0, .int .u8 0, .int .u8 0, .int .u8 0, .int .u8 0, .int .u16 0, .slice none 0 0]) (blk_put (cs' := #[.int .u8 0, .int .u8 0, .int .u8 0, .int .u8 0, .int .u8 0, .int .u8 0, .int .u8 0, .int .u8 0, .int .u8 0, .int .u8 0, .int .u8 0, .int .u8 0, .int .u16 0, .slice none 0 0]) (blk_put (cs' := #[.int .u8 0, .int .u8 0, .int .u8 0, .int .u8 0, .int .u8 0, .int .u8 0, .int .u8 0, .int .u8 0, .int .u8 0, .int .u8 0, .int .u8 0, .int .u8 0, .int .u16 0, .slice none 0 0]) (blk_put (cs' := #[.int .u8 0, .int .u8 0, .int .u8 0, .int .u8 0, .int .u8 0, .int .u8 0, .int .u8 0, .int .u8 0, .int .u8 0, .int .u8 0, .int .u8 0, .int .u8 0, .int .u16 0, .slice none 0 0]) (blk_put (cs' := #[.int .u8 0, .int .u8 0, .int .u8 0, .int .u8 0, .int .u8 0, .int .u8 0, .int .u8 0, .int .u8 0, .int .u8 0, .int .u8 0, .int .u8 0, .int .u8 0, .int .u16 0, .slice none 0 0]) (blk_put (cs' := #[.int .u8 0, .int .u8 0, .int .u8 0, .int .u8 0, .int .u8 0, .int .u8 0, .int .u8 0, .int .u8 0, .int .u8 0, .int .u8 0, .int .u8 0, .int .u8 0, .int .u16 0, .slice none 0 0]) (blk_put (cs' := #[.int .u8 0, .int .u8 0, .int .u8 0, .int .u8 0, .int .u8 0, .int .u8 0, .int .u8 0, .int .u8 0, .int .u8 0, .int .u8 0, .int .u8 0, .int .u8 0, .int .u16 0, .slice none 0 0]) (blk_put (cs' := #[.int .u8 0, .int .u8 0, .int .u8 0, .int .u8 0, .int .u8 0, .int .u8 0, .int .u8 0, .int .u8 0, .int .u8 0, .int .u8 0, .int .u8 0, .int .u8 0, .int .u16 0, .slice none 0 0]) (blk_put (cs' := #[.int .u8 0, .int .u8 0, .int .u8 0, .int .u8 0, .int .u8 0, .int .u8 0, .int .u8 0, .int .u8 0, .int .u8 0, .int .u8 0, .int .u8 0, .int .u8 0, .int .u16 0, .slice none 0 0]) (blk_put (cs' := #[.int .u8 0, .int .u8 0, .int .u8 0, .int .u8 0, .int .u8 0, .int .u8 0, .int .u8 0, .int .u8 0, .int .u8 0, .int .u8 0, .int .u8 0, .int .u8 0, .int .u16 0, .slice none 0 0]) (blk_put (cs' := #[.int .u8 0, .int .u8 0, .int .u8 0, .int .u8 0, .int .u8 0, .int .u8 0, .int .u8 0, .int .u8 0, .int .u8 0, .int .u8 0, .int .u8 0, .int .u8 0, .int .u16 0, .slice none 0 0]) (blk_put (cs' := #[.int .u8 0, .int .u8 0, .int .u8 0, .int .u8 0, .int .u8 0, .int .u8 0, .int .u8 0, .int .u8 0, .int .u8 0, .int .u8 0, .int .u8 0, .int .u8 0, .int .u16 0, .slice none 0 0]) (blk_put (cs' := #[.int .u8 0, .int .u8 0, .int .u8 0, .int .u8 0, .int .u8 0, .int .u8 0, .int .u8 0, .int .u8 0, .int .u8 0, .int .u8 0, .int .u8 0, .int .u8 0, .int .u16 0, .slice none 0 0]) (blk_put (cs' := #[.int .u8 0, .int .u8 0, .int .u8 0, .int .u8 0, .int .u8 0, .int .u8 0, .int .u8 0, .int .u8 0, .int .u8 0, .int .u8 0, .int .u8 0, .int .u8 0, .int .u16 0, .slice none 0 0]) HP.out 0 (.int .u8 0) rfl) 1 (.int .u8 0) rfl) 2 (.int .u8 0) rfl) 3 (.int .u8 0) rfl) 4 (.int .u8 0) rfl) 5 (.int .u8 0) rfl) 6 (.int .u8 0) rfl) 7 (.int .u8 0) rfl) 8 (.int .u8 0) rfl) 9 (.int .u8 0) rfl) 10 (.int .u8 0) rfl) 11 (.int .u8 0) rfl) 12 (.int .u16 0) rfl) 13 (.slice none 0 0) rfl) Try.underlying28 rfl (by kernel_rfl)) rfl ?_
      exact ⟨_, rfl, Kd.R_nil _ _ _ _ _, (Below.setCell (p := ⟨gp, 13, none⟩) (Below.setCell (p := ⟨gp, 12, none⟩) (Below.setCell (p := ⟨gp, 11, none⟩) (Below.setCell (p := ⟨gp, 10, none⟩) (Below.setCell (p := ⟨gp, 9, none⟩) (Below.setCell (p := ⟨gp, 8, none⟩) (Below.setCell (p := ⟨gp, 7, none⟩) (Below.setCell (p := ⟨gp, 6, none⟩) (Below.setCell (p := ⟨gp, 5, none⟩) (Below.setCell (p := ⟨gp, 4, none⟩) (Below.setCell (p := ⟨gp, 3, none⟩) (Below.setCell (p := ⟨gp, 2, none⟩) (Below.setCell (p := ⟨gp, 1, none⟩) (Below.setCell (p := ⟨gp, 0, none⟩) HB.out GP.out (.int .u8 0)) GP.out (.int .u8 0)) GP.out (.int .u8 0)) GP.out (.int .u8 0)) GP.out (.int .u8 0)) GP.out (.int .u8 0)) GP.out (.int .u8 0)) GP.out (.int .u8 0)) GP.out (.int .u8 0)) GP.out (.int .u8 0)) GP.out (.int .u8 0)) GP.out (.int .u8 0)) GP.out (.int .u16 0)) GP.out (.slice none 0 0))⟩
    · rw [if_neg c2] at h
      have c2b : decide ((l0.length : Int) < 14) = false := decide_eq_false c2
      obtain ⟨t, ht, h⟩ := Option.bind_eq_some_iff.mp h
      obtain ⟨b, hb, h⟩ := Option.bind_eq_some_iff.mp h
      simp only [Option.some.injEq, Prod.mk.injEq] at h
      obtain ⟨rfl, rfl, rfl, rfl, rfl, rfl, rfl, rfl, rfl, rfl, rfl, rfl, rfl, rfl, rfl⟩ := h
      have L14 := Aside0.mk (show 14 ≤ l0.length by omega)
      have A1 := Aside0.mk ht
      have A2 := Aside0.mk hb
      clear c1 c2 hb ht
      obtain ⟨ad, rfl, _⟩ := Kd.at_int HR0.out 0 (by omega) (by have := L14.out; omega)
      go_enter Try.func14, Try.ntmps14
      go_wp2_with (first | ((with_reducible refine gate_dst (N := 2) rfl ?_); refine box_event ?hg (N := 2) ?hd (cs := #[.int .u8 0, .int .u8 0, .int .u8 0, .int .u8 0, .int .u8 0, .int .u8 0, .int .u8 0, .int .u8 0, .int .u8 0, .int .u8 0, .int .u8 0, .int .u8 0, .int .u16 0, .slice none 0 0]) (t := 28) ?hr ?_; (case hd => rfl); (case hg => rfl); (case hr => first | (go_simp; done) | (go_simp; rfl)); intro gp hg w1 hbox hb; have n0_ := Aside0.mk (below_step (by repeat (first | (with_reducible first | exact HB.out | apply below_alloc | apply pw_below_drewN | apply below_drew1) | exact HB.out)) hb); have HP := Aside0.mk hbox; have GP := Aside0.mk ((by rw [hg]; exact (below_size (by repeat (first | (with_reducible first | exact HB.out | apply below_alloc | apply pw_below_drewN | apply below_drew1) | exact HB.out)))) : w.heap.size ≤ gp); clear HB; have HB := n0_; clear n0_ hb hbox hg) | ((with_reducible refine gate_dst (N := 4) rfl ?_); refine box_event ?hg (N := 4) ?hd (cs := #[.int .u8 0, .int .u8 0, .int .u8 0, .int .u8 0, .int .u8 0, .int .u8 0, .int .u8 0, .int .u8 0, .int .u8 0, .int .u8 0, .int .u8 0, .int .u8 0, .int .u16 0, .slice none 0 0]) (t := 28) ?hr ?_; (case hd => rfl); (case hg => rfl); (case hr => first | (go_simp; done) | (go_simp; rfl)); intro ge hg w2 hbox hb; have n0_ := Aside0.mk (below_step (by repeat (first | (with_reducible first | exact HB.out | apply below_alloc | apply pw_below_drewN | apply below_drew1) | exact HB.out)) hb); have GN := Aside0.mk (show gp ≠ ge by rw [hg]; exact Nat.ne_of_lt (blk_lt (by (with_reducible repeat (first | refine blk_drewN ?_ _ | refine blk_drew ?_ | refine blk_alloc ?_ _)); exact HP.out))); have n1_ := Aside0.mk (blk_below (g := gp) (o := .cells #[.int .u8 0, .int .u8 0, .int .u8 0, .int .u8 0, .int .u8 0, .int .u8 0, .int .u8 0, .int .u8 0, .int .u8 0, .int .u8 0, .int .u8 0, .int .u8 0, .int .u16 0, .slice none 0 0] 28 (0, 0)) (by (with_reducible repeat (first | refine blk_drewN ?_ _ | refine blk_drew ?_ | refine blk_alloc ?_ _)); exact HP.out) hb); have HE := Aside0.mk hbox; have GE := Aside0.mk ((by rw [hg]; exact (below_size (by repeat (first | (with_reducible first | exact HB.out | apply below_alloc | apply pw_below_drewN | apply below_drew1) | exact HB.out)))) : w.heap.size ≤ ge); clear HB HP; have HB := n0_; have HP := n1_; clear n0_ n1_ hb hbox hg))
      go_loopg [5] 6 (fun kq v5 w' => ∃ i : Nat, v5 = .int .i64 (i : Int) ∧ Aside0 (i ≤ 6) ∧ Aside0 (kq + i = 6) ∧ Aside0 (w'.heap[ge]? = some (.cells (lychref1_Eth.cs l0 i) 28 (0, 0))) ∧ Aside0 (w'.heap[gp]? = some (.cells #[.int .u8 0, .int .u8 0, .int .u8 0, .int .u8 0, .int .u8 0, .int .u8 0, .int .u8 0, .int .u8 0, .int .u8 0, .int .u8 0, .int .u8 0, .int .u8 0, .int .u16 0, .slice none 0 0] 28 (0, 0))) ∧ Aside0 (Below w.heap.size w w'))
      case atStart => exact ⟨0, rfl, ⟨by omega⟩, ⟨rfl⟩, ⟨HE.out⟩, ⟨HP.out⟩, ⟨HB.out⟩⟩
      case round =>
        clear HE HP HB
        obtain ⟨i, rfl, Hi, Hk, HE, HP, HB⟩ := hrel
        by_cases c6 : i < 6
        · have c6b : decide ((i : Int) < 6) = true := decide_eq_true (by omega)
          have H6 := Aside0.mk c6
          clear c6
          go_upto_region 9 with (fail)
          have hi1 : w.cell? (ad.add i) = some (.int .u8 (rd l0 (i : Int))) := by
            obtain ⟨ad2, e, hx⟩ := Kd.at_int HR0.out (i : Int) (by omega) (by have := L14.out; have := H6.out; omega)
            cases e
            rw [Int.toNat_natCast] at hx
            exact hx
          have hi2 : w.cell? (ad.add (6 + i)) = some (.int .u8 (rd l0 (6 + (i : Int)))) := by
            obtain ⟨ad2, e, hx⟩ := Kd.at_int HR0.out (6 + (i : Int)) (by omega) (by have := L14.out; have := H6.out; omega)
            cases e
            rw [show (6 + (i : Int)).toNat = 6 + i from by omega] at hx
            exact hx
          have HI1 := Aside0.mk hi1
          have HI2 := Aside0.mk hi2
          clear hi1 hi2
          have q0 : (0 ≤ (i : Int)) = True := eq_true (by omega)
          have q1 : ((i : Int) < (l0.length : Int)) = True := eq_true (by have := L14.out; have := H6.out; omega)
          have q2 : (i < l0.length) = True := eq_true (by have := L14.out; have := H6.out; omega)
          have q3 : ((i : Int) < 6) = True := eq_true (by have := H6.out; omega)
          have q4 : (i < 6) = True := eq_true H6.out
          have w6 : wrap64 (6 + (i : Int)) = 6 + (i : Int) := by unfold wrap64; have := H6.out; omega
          have w6i : IntKind.i64.wrap (6 + (i : Int)) = 6 + (i : Int) := (i64_w _).trans w6
          have q5 : (0 ≤ 6 + (i : Int)) = True := eq_true (by omega)
          have q6 : (6 + (i : Int) < (l0.length : Int)) = True := eq_true (by have := L14.out; have := H6.out; omega)
          have n6 : (6 + (i : Int)).toNat = 6 + i := by omega
          refine start_ (n := 17) (S := fun w' => w'.cell? (ad.add i) = some (.int .u8 (rd l0 (i : Int))) ∧ w'.cell? (ad.add (6 + i)) = some (.int .u8 (rd l0 (6 + (i : Int))))) (ds := []) #[false, false, false, false, false, false, false, false, false, false, false, false, false, false, false, false, false] (by kernel_rfl) rfl rfl ⟨(HB.out.cell (World.block_lt_of_cell? w _ HI1.out)).trans HI1.out, (HB.out.cell (World.block_lt_of_cell? w _ HI2.out)).trans HI2.out⟩ (fun hHeld => ?_)
          refine with_tabW lychref1_Eth.tab9 lychref1_Eth.bits9 (fun HT_ HW_ => ?_)
          refine pure_ (i := 0) (N := some 18) (v := ?_) (a' := ?_) #[true, false, false, false, false, false, false, false, false, false, false, false, false, false, false, false, false] rfl rfl (any_of HT_.out (by kernel_rfl)) (fun _ _ _ h => h) (Or.inl ⟨by rfl, ?_⟩) ?_ ?_
          rotate_left
          · intro w'
            go_simp
            with_reducible rfl
          rotate_left
          · simp only [Act.put, List.setIfInBounds_toArray, List.set_cons_zero, List.set_cons_succ, i64_w, i32_w]
            rfl
          refine pure_ (i := 1) (N := some 19) (v := ?_) (a' := ?_) #[true, true, false, false, false, false, false, false, false, false, false, false, false, false, false, false, false] rfl rfl (any_of HT_.out (by kernel_rfl)) (fun _ _ _ h => h) (Or.inl ⟨by rfl, ?_⟩) ?_ ?_
          rotate_left
          · intro w'
            go_simp
            with_reducible rfl
          rotate_left
          · simp only [Act.put, List.setIfInBounds_toArray, List.set_cons_zero, List.set_cons_succ, i64_w, i32_w]
            rfl
          refine pure_ (i := 2) (N := some 20) (v := ?_) (a' := ?_) #[true, true, true, false, false, false, false, false, false, false, false, false, false, false, false, false, false] rfl rfl (any_of HT_.out (by kernel_rfl)) (fun _ _ _ h => h) (Or.inl ⟨by rfl, ?_⟩) ?_ ?_
          rotate_left
          · intro w'
            go_simp
            with_reducible rfl
          rotate_left
          · simp only [Act.put, List.setIfInBounds_toArray, List.set_cons_zero, List.set_cons_succ, i64_w, i32_w]
            rfl
          refine pure_ (i := 3) (N := some 21) (v := ?_) (a' := ?_) #[true, true, true, true, false, false, false, false, false, false, false, false, false, false, false, false, false] rfl rfl (any_of HT_.out (by kernel_rfl)) (fun _ _ _ h => h) (Or.inl ⟨by rfl, ?_⟩) ?_ ?_
          rotate_left
          · intro w'
            go_simp
            with_reducible rfl
          rotate_left
          · simp only [Act.put, List.setIfInBounds_toArray, List.set_cons_zero, List.set_cons_succ, i64_w, i32_w]
            rfl
          refine pure_ (i := 4) (N := some 22) (v := ?_) (a' := ?_) #[true, true, true, true, true, false, false, false, false, false, false, false, false, false, false, false, false] rfl rfl (any_of HT_.out (by kernel_rfl)) (fun _ _ _ h => h) (Or.inl ⟨by rfl, ?_⟩) ?_ ?_
          rotate_left
          · intro w'
            go_simp
            with_reducible rfl
          rotate_left
          · simp only [Act.put, List.setIfInBounds_toArray, List.set_cons_zero, List.set_cons_succ, i64_w, i32_w]
            rfl
          refine take_ (i := 5) (N := some 23) (v := ?_) (a' := ?_) #[true, true, true, true, true, true, false, false, false, false, false, false, false, false, false, false, false] rfl rfl (take_ofW HT_.out HW_.out (by kernel_rfl)) (fun _ _ _ h => h) (Or.inl ⟨by rfl, ?_⟩) hHeld ?_ ?_
          rotate_left
          · rintro w' ⟨s0, s1⟩
            go_simp
            with_reducible rfl
          rotate_left
          · simp only [Act.put, List.setIfInBounds_toArray, List.set_cons_zero, List.set_cons_succ, i64_w, i32_w]
            rfl
          refine pure_ (i := 6) (N := some 24) (v := ?_) (a' := ?_) #[true, true, true, true, true, true, true, false, false, false, false, false, false, false, false, false, false] rfl rfl (any_of HT_.out (by kernel_rfl)) (fun _ _ _ h => h) (Or.inl ⟨by rfl, ?_⟩) ?_ ?_
          rotate_left
          · intro w'
            go_simp
            with_reducible rfl
          rotate_left
          · simp only [Act.put, List.setIfInBounds_toArray, List.set_cons_zero, List.set_cons_succ, i64_w, i32_w]
            rfl
          refine pure_ (i := 7) (N := some 25) (v := ?_) (a' := ?_) #[true, true, true, true, true, true, true, true, false, false, false, false, false, false, false, false, false] rfl rfl (any_of HT_.out (by kernel_rfl)) (fun _ _ _ h => h) (Or.inl ⟨by rfl, ?_⟩) ?_ ?_
          rotate_left
          · intro w'
            go_simp
            with_reducible rfl
          rotate_left
          · simp only [Act.put, List.setIfInBounds_toArray, List.set_cons_zero, List.set_cons_succ, i64_w, i32_w]
            rfl
          refine pure_ (i := 8) (N := some 26) (v := ?_) (a' := ?_) #[true, true, true, true, true, true, true, true, true, false, false, false, false, false, false, false, false] rfl rfl (any_of HT_.out (by kernel_rfl)) (fun _ _ _ h => h) (Or.inl ⟨by rfl, ?_⟩) ?_ ?_
          rotate_left
          · intro w'
            go_simp
            with_reducible rfl
          rotate_left
          · simp only [Act.put, List.setIfInBounds_toArray, List.set_cons_zero, List.set_cons_succ, i64_w, i32_w]
            rfl
          refine pure_ (i := 9) (N := some 27) (v := ?_) (a' := ?_) #[true, true, true, true, true, true, true, true, true, true, false, false, false, false, false, false, false] rfl rfl (any_of HT_.out (by kernel_rfl)) (fun _ _ _ h => h) (Or.inl ⟨by rfl, ?_⟩) ?_ ?_
          rotate_left
          · intro w'
            go_simp
            with_reducible rfl
          rotate_left
          · simp only [Act.put, List.setIfInBounds_toArray, List.set_cons_zero, List.set_cons_succ, i64_w, i32_w]
            rfl
          refine take_ (i := 10) (N := some 28) (v := ?_) (a' := ?_) #[true, true, true, true, true, true, true, true, true, true, true, false, false, false, false, false, false] rfl rfl (take_ofW HT_.out HW_.out (by kernel_rfl)) (fun _ _ _ h => h) (Or.inl ⟨by rfl, ?_⟩) hHeld ?_ ?_
          rotate_left
          · rintro w' ⟨s0, s1⟩
            go_simp
            with_reducible rfl
          rotate_left
          · simp only [Act.put, List.setIfInBounds_toArray, List.set_cons_zero, List.set_cons_succ, i64_w, i32_w]
            rfl
          refine pure_ (i := 11) (N := some 29) (v := ?_) (a' := ?_) #[true, true, true, true, true, true, true, true, true, true, true, true, false, false, false, false, false] rfl rfl (any_of HT_.out (by kernel_rfl)) (fun _ _ _ h => h) (Or.inl ⟨by rfl, ?_⟩) ?_ ?_
          rotate_left
          · intro w'
            go_simp
            with_reducible rfl
          rotate_left
          · simp only [Act.put, List.setIfInBounds_toArray, List.set_cons_zero, List.set_cons_succ, i64_w, i32_w]
            rfl
          refine pure_ (i := 12) (N := some 30) (v := ?_) (a' := ?_) #[true, true, true, true, true, true, true, true, true, true, true, true, true, false, false, false, false] rfl rfl (any_of HT_.out (by kernel_rfl)) (fun _ _ _ h => h) (Or.inl ⟨by rfl, ?_⟩) ?_ ?_
          rotate_left
          · intro w'
            go_simp
            with_reducible rfl
          rotate_left
          · simp only [Act.put, List.setIfInBounds_toArray, List.set_cons_zero, List.set_cons_succ, i64_w, i32_w]
            rfl
          refine pure_ (i := 14) (N := some 31) (v := ?_) (a' := ?_) #[true, true, true, true, true, true, true, true, true, true, true, true, true, false, true, false, false] rfl rfl (any_of HT_.out (by kernel_rfl)) (fun _ _ _ h => h) (Or.inl ⟨by rfl, ?_⟩) ?_ ?_
          rotate_left
          · intro w'
            go_simp
            with_reducible rfl
          rotate_left
          · simp only [Act.put, List.setIfInBounds_toArray, List.set_cons_zero, List.set_cons_succ, i64_w, i32_w]
            rfl
          refine one_ (i := 13) (N := none) #[true, true, true, true, true, true, true, true, true, true, true, true, true, true, true, false, false] rfl rfl (one_of HT_.out (by kernel_rfl)) (by decide) (fun K hK => ?_)
          have HP1 := Aside0.mk (blk_drew HP.out)
          have HE1 := Aside0.mk (blk_drew HE.out)
          have HB1 := Aside0.mk (below_drew1 HB.out)
          have hs0 : wr.drew.cell? ⟨ge, i, none⟩ = some (.int .u8 0) := (blk_cell HE1.out i).trans (lychref1_Eth.cs_old l0 i H6.out).1
          have hfs0 := blk_frozen HE1.out i
          clear HP HE HB
          generalize wr.drew = wa at HP1 HE1 HB1 hs0 hfs0 hHeld ⊢
          refine skip_ (w1 := wa.setCell ⟨ge, i, none⟩ (.int .u8 (rd l0 (i : Int)))) (by rfl) rfl ?_ ?_
          · go_simp
          have HLT : ad.block < w.heap.size := by have h_ := World.block_lt_of_cell? w _ HI1.out; rwa [add_block] at h_
          have HNE : ad.block ≠ ge := Nat.ne_of_lt (Nat.lt_of_lt_of_le HLT GE.out)
          have f1 := Aside0.mk (blk_set HE1.out i (.int .u8 (rd l0 (i : Int))))
          have f2 := Aside0.mk (blk_far HP1.out (p := ⟨ge, i, none⟩) GN.out (.int .u8 (rd l0 (i : Int))))
          have f3 := Aside0.mk (Below.setCell (p := ⟨ge, i, none⟩) HB1.out GE.out (.int .u8 (rd l0 (i : Int))))
          have f4 := Aside0.mk ((cell_far (W := wa) (a := ad.add i) (p := ⟨ge, i, none⟩) (by rw [add_block]; exact HNE) (.int .u8 (rd l0 (i : Int)))).trans hHeld.1)
          have f5 := Aside0.mk ((cell_far (W := wa) (a := ad.add (6 + i)) (p := ⟨ge, i, none⟩) (by rw [add_block]; exact HNE) (.int .u8 (rd l0 (i : Int)))).trans hHeld.2)
          clear hs0 hfs0 HE1 HP1 HB1 hHeld
          generalize wa.setCell ⟨ge, i, none⟩ (.int .u8 (rd l0 (i : Int))) = wb at f1 f2 f3 f4 f5 ⊢
          refine hK.out _ _ ⟨f4.out, f5.out⟩ (fun hHeld => ?_)
          clear hK K f4 f5
          refine pure_ (i := 15) (N := some 32) (v := ?_) (a' := ?_) #[true, true, true, true, true, true, true, true, true, true, true, true, true, true, true, true, false] rfl rfl (any_of HT_.out (by kernel_rfl)) (fun _ _ _ h => h) (Or.inl ⟨by rfl, ?_⟩) ?_ ?_
          rotate_left
          · intro w'
            go_simp
            with_reducible rfl
          rotate_left
          · simp only [Act.put, List.setIfInBounds_toArray, List.set_cons_zero, List.set_cons_succ, i64_w, i32_w]
            rfl
          refine one_ (i := 16) (N := none) #[true, true, true, true, true, true, true, true, true, true, true, true, true, true, true, true, true] rfl rfl (one_of HT_.out (by kernel_rfl)) (by decide) (fun K hK => ?_)
          have hs0 : wb.cell? ⟨ge, 6 + i, none⟩ = some (.int .u8 0) := (blk_cell f1.out (6 + i)).trans (lychref1_Eth.cs_old l0 i H6.out).2
          have hfs0 := blk_frozen f1.out (6 + i)
          refine skip_ (w1 := wb.setCell ⟨ge, 6 + i, none⟩ (.int .u8 (rd l0 (6 + (i : Int))))) (by rfl) rfl ?_ ?_
          · go_simp
          have g1 := Aside0.mk (blk_put (cs' := lychref1_Eth.cs l0 (i + 1)) f1.out (6 + i) (.int .u8 (rd l0 (6 + (i : Int)))) (lychref1_Eth.cs_step l0 i H6.out))
          have g2 := Aside0.mk (blk_far f2.out (p := ⟨ge, 6 + i, none⟩) GN.out (.int .u8 (rd l0 (6 + (i : Int)))))
          have g3 := Aside0.mk (Below.setCell (p := ⟨ge, 6 + i, none⟩) f3.out GE.out (.int .u8 (rd l0 (6 + (i : Int)))))
          have g4 := Aside0.mk ((cell_far (W := wb) (a := ad.add i) (p := ⟨ge, 6 + i, none⟩) (by rw [add_block]; exact HNE) (.int .u8 (rd l0 (6 + (i : Int))))).trans hHeld.1)
          have g5 := Aside0.mk ((cell_far (W := wb) (a := ad.add (6 + i)) (p := ⟨ge, 6 + i, none⟩) (by rw [add_block]; exact HNE) (.int .u8 (rd l0 (6 + (i : Int))))).trans hHeld.2)
          clear hs0 hfs0 f1 f2 f3 hHeld
          generalize wb.setCell ⟨ge, 6 + i, none⟩ (.int .u8 (rd l0 (6 + (i : Int)))) = wc at g1 g2 g3 g4 g5 ⊢
          refine hK.out _ _ ⟨g4.out, g5.out⟩ (fun hHeld => ?_)
          clear hK K g4 g5
          refine done_ (done_of HT_.out (by kernel_rfl)) ?_
          clear HT_ HW_ hHeld
          have w7 : wrap64 ((i : Int) + 1) = (i : Int) + 1 := by unfold wrap64; have := H6.out; omega
          (try simp only [Exit.inBlock, Exit.then])
          go_wp2
          go_roundg (gk - 1)
          case measure => have := Hk.out; have := H6.out; omega
          case rel => exact ⟨i + 1, by first | rfl | (simp [w7]; done) | (simp only [w7]; rfl), ⟨by have := H6.out; omega⟩, ⟨by have := Hk.out; have := H6.out; omega⟩, ⟨g1.out⟩, ⟨g2.out⟩, ⟨g3.out⟩⟩
        · have c6b : decide ((i : Int) < 6) = false := decide_eq_false (by omega)
          obtain rfl : i = 6 := by have := Hi.out; omega
          clear c6 Hi Hk
          have HE6 : Aside0 (wr.heap[ge]? = some (.cells #[.int .u8 (rd l0 0), .int .u8 (rd l0 1), .int .u8 (rd l0 2), .int .u8 (rd l0 3), .int .u8 (rd l0 4), .int .u8 (rd l0 5), .int .u8 (rd l0 6), .int .u8 (rd l0 7), .int .u8 (rd l0 8), .int .u8 (rd l0 9), .int .u8 (rd l0 10), .int .u8 (rd l0 11), .int .u16 0, .slice none 0 0] 28 (0, 0))) := ⟨HE.out⟩
          clear HE
          have HE := HE6
          clear HE6
          go_wp2_with fail
          refine (lychref1_Get16.calls (some ad) c0 l0 12 t _ (Kd.C_below HR0.out (by repeat (first | (with_reducible first | exact HB.out | apply below_alloc | apply pw_below_drewN | apply below_drew1) | exact HB.out))) HC0.out A1.out).mono ?_
          rintro e w3 ⟨rfl, ⟨nd, rfl⟩⟩
          (try dsimp only)
          go_wp2_with fail
          refine (lychref1_cut.calls (some ad) c0 l0 14 (l0.length : Int) b _ (Kd.C_below HR0.out (by repeat (first | (with_reducible first | exact HB.out | apply below_alloc | apply pw_below_drewN | apply below_drew1) | exact HB.out))) HC0.out A2.out).mono ?_
          rintro e w4 ⟨v, rfl, ho, hb⟩
          (try dsimp only)
          have HO := Aside0.mk (Kd.R_lower ho (below_size (by repeat (first | (with_reducible first | exact HB.out | apply below_alloc | apply pw_below_drewN | apply below_drew1) | exact HB.out))))
          have n0_ := Aside0.mk (blk_below (g := gp) (o := .cells #[.int .u8 0, .int .u8 0, .int .u8 0, .int .u8 0, .int .u8 0, .int .u8 0, .int .u8 0, .int .u8 0, .int .u8 0, .int .u8 0, .int .u8 0, .int .u8 0, .int .u16 0, .slice none 0 0] 28 (0, 0)) (by (with_reducible repeat (first | refine blk_drewN ?_ _ | refine blk_drew ?_ | refine blk_alloc ?_ _)); exact HP.out) hb)
          have n2_ := Aside0.mk (blk_below (g := ge) (o := .cells #[.int .u8 (rd l0 0), .int .u8 (rd l0 1), .int .u8 (rd l0 2), .int .u8 (rd l0 3), .int .u8 (rd l0 4), .int .u8 (rd l0 5), .int .u8 (rd l0 6), .int .u8 (rd l0 7), .int .u8 (rd l0 8), .int .u8 (rd l0 9), .int .u8 (rd l0 10), .int .u8 (rd l0 11), .int .u16 0, .slice none 0 0] 28 (0, 0)) (by (with_reducible repeat (first | refine blk_drewN ?_ _ | refine blk_drew ?_ | refine blk_alloc ?_ _)); exact HE.out) hb)
          have n1_ := Aside0.mk (below_step (by repeat (first | (with_reducible first | exact HB.out | apply below_alloc | apply pw_below_drewN | apply below_drew1) | exact HB.out)) hb)
          clear HP HB HE ho hb
          have HP := n0_
          have HB := n1_
          have HE := n2_
          clear n0_ n1_ n2_
          obtain ⟨Bo, co, eo⟩ := Kd.R_slice HO.out
          subst eo
          have hgp0 : w4.cell? ⟨gp, 0, none⟩ = some (.int .u8 0) := (blk_cell HP.out 0).trans rfl
          have hfgp0 := blk_frozen HP.out 0
          have hgp1 : w4.cell? ⟨gp, 1, none⟩ = some (.int .u8 0) := (blk_cell HP.out 1).trans rfl
          have hfgp1 := blk_frozen HP.out 1
          have hgp2 : w4.cell? ⟨gp, 2, none⟩ = some (.int .u8 0) := (blk_cell HP.out 2).trans rfl
          have hfgp2 := blk_frozen HP.out 2
          have hgp3 : w4.cell? ⟨gp, 3, none⟩ = some (.int .u8 0) := (blk_cell HP.out 3).trans rfl
          have hfgp3 := blk_frozen HP.out 3
          have hgp4 : w4.cell? ⟨gp, 4, none⟩ = some (.int .u8 0) := (blk_cell HP.out 4).trans rfl
          have hfgp4 := blk_frozen HP.out 4
          have hgp5 : w4.cell? ⟨gp, 5, none⟩ = some (.int .u8 0) := (blk_cell HP.out 5).trans rfl
          have hfgp5 := blk_frozen HP.out 5
          have hgp6 : w4.cell? ⟨gp, 6, none⟩ = some (.int .u8 0) := (blk_cell HP.out 6).trans rfl
          have hfgp6 := blk_frozen HP.out 6
          have hgp7 : w4.cell? ⟨gp, 7, none⟩ = some (.int .u8 0) := (blk_cell HP.out 7).trans rfl
          have hfgp7 := blk_frozen HP.out 7
          have hgp8 : w4.cell? ⟨gp, 8, none⟩ = some (.int .u8 0) := (blk_cell HP.out 8).trans rfl
          have hfgp8 := blk_frozen HP.out 8
          have hgp9 : w4.cell? ⟨gp, 9, none⟩ = some (.int .u8 0) := (blk_cell HP.out 9).trans rfl
          have hfgp9 := blk_frozen HP.out 9
          have hgp10 : w4.cell? ⟨gp, 10, none⟩ = some (.int .u8 0) := (blk_cell HP.out 10).trans rfl
          have hfgp10 := blk_frozen HP.out 10
          have hgp11 : w4.cell? ⟨gp, 11, none⟩ = some (.int .u8 0) := (blk_cell HP.out 11).trans rfl
          have hfgp11 := blk_frozen HP.out 11
          have hgp12 : w4.cell? ⟨gp, 12, none⟩ = some (.int .u16 0) := (blk_cell HP.out 12).trans rfl
          have hfgp12 := blk_frozen HP.out 12
          have hgp13 : w4.cell? ⟨gp, 13, none⟩ = some (.slice none 0 0) := (blk_cell HP.out 13).trans rfl
          have hfgp13 := blk_frozen HP.out 13
          have hge0 : w4.cell? ⟨ge, 0, none⟩ = some (.int .u8 (rd l0 0)) := (blk_cell HE.out 0).trans rfl
          have hfge0 := blk_frozen HE.out 0
          have hge1 : w4.cell? ⟨ge, 1, none⟩ = some (.int .u8 (rd l0 1)) := (blk_cell HE.out 1).trans rfl
          have hfge1 := blk_frozen HE.out 1
          have hge2 : w4.cell? ⟨ge, 2, none⟩ = some (.int .u8 (rd l0 2)) := (blk_cell HE.out 2).trans rfl
          have hfge2 := blk_frozen HE.out 2
          have hge3 : w4.cell? ⟨ge, 3, none⟩ = some (.int .u8 (rd l0 3)) := (blk_cell HE.out 3).trans rfl
          have hfge3 := blk_frozen HE.out 3
          have hge4 : w4.cell? ⟨ge, 4, none⟩ = some (.int .u8 (rd l0 4)) := (blk_cell HE.out 4).trans rfl
          have hfge4 := blk_frozen HE.out 4
          have hge5 : w4.cell? ⟨ge, 5, none⟩ = some (.int .u8 (rd l0 5)) := (blk_cell HE.out 5).trans rfl
          have hfge5 := blk_frozen HE.out 5
          have hge6 : w4.cell? ⟨ge, 6, none⟩ = some (.int .u8 (rd l0 6)) := (blk_cell HE.out 6).trans rfl
          have hfge6 := blk_frozen HE.out 6
          have hge7 : w4.cell? ⟨ge, 7, none⟩ = some (.int .u8 (rd l0 7)) := (blk_cell HE.out 7).trans rfl
          have hfge7 := blk_frozen HE.out 7
          have hge8 : w4.cell? ⟨ge, 8, none⟩ = some (.int .u8 (rd l0 8)) := (blk_cell HE.out 8).trans rfl
          have hfge8 := blk_frozen HE.out 8
          have hge9 : w4.cell? ⟨ge, 9, none⟩ = some (.int .u8 (rd l0 9)) := (blk_cell HE.out 9).trans rfl
          have hfge9 := blk_frozen HE.out 9
          have hge10 : w4.cell? ⟨ge, 10, none⟩ = some (.int .u8 (rd l0 10)) := (blk_cell HE.out 10).trans rfl
          have hfge10 := blk_frozen HE.out 10
          have hge11 : w4.cell? ⟨ge, 11, none⟩ = some (.int .u8 (rd l0 11)) := (blk_cell HE.out 11).trans rfl
          have hfge11 := blk_frozen HE.out 11
          have hge12 : w4.cell? ⟨ge, 12, none⟩ = some (.int .u16 0) := (blk_cell HE.out 12).trans rfl
          have hfge12 := blk_frozen HE.out 12
          have hge13 : w4.cell? ⟨ge, 13, none⟩ = some (.slice none 0 0) := (blk_cell HE.out 13).trans rfl
          have hfge13 := blk_frozen HE.out 13
          have hnge : gp ≠ ge := GN.out
          have hneg : ge ≠ gp := fun e => hnge e.symm
          go_wp2
          clear hgp0 hfgp0 hge0 hfge0 hgp1 hfgp1 hge1 hfge1 hgp2 hfgp2 hge2 hfge2 hgp3 hfgp3 hge3 hfge3 hgp4 hfgp4 hge4 hfge4 hgp5 hfgp5 hge5 hfge5 hgp6 hfgp6 hge6 hfge6 hgp7 hfgp7 hge7 hfge7 hgp8 hfgp8 hge8 hfge8 hgp9 hfgp9 hge9 hfge9 hgp10 hfgp10 hge10 hfge10 hgp11 hfgp11 hge11 hfge11 hgp12 hfgp12 hge12 hfge12 hgp13 hfgp13 hge13 hfge13
          have b0 := HP.out
          have l0_ := HB.out
          have u0 := HO.out
          have e0 := HE.out
          have e1 := blk_put (cs' := #[.int .u8 (rd l0 0), .int .u8 (rd l0 1), .int .u8 (rd l0 2), .int .u8 (rd l0 3), .int .u8 (rd l0 4), .int .u8 (rd l0 5), .int .u8 (rd l0 6), .int .u8 (rd l0 7), .int .u8 (rd l0 8), .int .u8 (rd l0 9), .int .u8 (rd l0 10), .int .u8 (rd l0 11), .int .u16 t, .slice none 0 0]) e0 12 (.int .u16 t) rfl
          have b1 := blk_far b0 (p := ⟨ge, 12, none⟩) GN.out (.int .u16 t)
          have l1_ := Below.setCell (p := ⟨ge, 12, none⟩) l0_ GE.out (.int .u16 t)
          have u1 := Kd.R_set u0 e0 (by decide) 12 (.int .u16 t)
          clear b0 l0_ u0 e0
          have b2 := blk_far b1 (p := ⟨ge, 13, none⟩) GN.out (.slice Bo b.length co)
          have l2_ := Below.setCell (p := ⟨ge, 13, none⟩) l1_ GE.out (.slice Bo b.length co)
          have u2 := Kd.R_set u1 e1 (by decide) 13 (.slice Bo b.length co)
          clear b1 l1_ u1 e1
          have b3 := blk_put (cs' := #[.int .u8 (rd l0 0), .int .u8 0, .int .u8 0, .int .u8 0, .int .u8 0, .int .u8 0, .int .u8 0, .int .u8 0, .int .u8 0, .int .u8 0, .int .u8 0, .int .u8 0, .int .u16 0, .slice none 0 0]) b2 0 (.int .u8 (rd l0 0)) rfl
          have l3_ := Below.setCell (p := ⟨gp, 0, none⟩) l2_ GP.out (.int .u8 (rd l0 0))
          have u3 := Kd.R_set u2 b2 (by decide) 0 (.int .u8 (rd l0 0))
          clear b2 l2_ u2
          have b4 := blk_put (cs' := #[.int .u8 (rd l0 0), .int .u8 (rd l0 1), .int .u8 0, .int .u8 0, .int .u8 0, .int .u8 0, .int .u8 0, .int .u8 0, .int .u8 0, .int .u8 0, .int .u8 0, .int .u8 0, .int .u16 0, .slice none 0 0]) b3 1 (.int .u8 (rd l0 1)) rfl
          have l4_ := Below.setCell (p := ⟨gp, 1, none⟩) l3_ GP.out (.int .u8 (rd l0 1))
          have u4 := Kd.R_set u3 b3 (by decide) 1 (.int .u8 (rd l0 1))
          clear b3 l3_ u3
          have b5 := blk_put (cs' := #[.int .u8 (rd l0 0), .int .u8 (rd l0 1), .int .u8 (rd l0 2), .int .u8 0, .int .u8 0, .int .u8 0, .int .u8 0, .int .u8 0, .int .u8 0, .int .u8 0, .int .u8 0, .int .u8 0, .int .u16 0, .slice none 0 0]) b4 2 (.int .u8 (rd l0 2)) rfl
          have l5_ := Below.setCell (p := ⟨gp, 2, none⟩) l4_ GP.out (.int .u8 (rd l0 2))
          have u5 := Kd.R_set u4 b4 (by decide) 2 (.int .u8 (rd l0 2))
          clear b4 l4_ u4
          have b6 := blk_put (cs' := #[.int .u8 (rd l0 0), .int .u8 (rd l0 1), .int .u8 (rd l0 2), .int .u8 (rd l0 3), .int .u8 0, .int .u8 0, .int .u8 0, .int .u8 0, .int .u8 0, .int .u8 0, .int .u8 0, .int .u8 0, .int .u16 0, .slice none 0 0]) b5 3 (.int .u8 (rd l0 3)) rfl
          have l6_ := Below.setCell (p := ⟨gp, 3, none⟩) l5_ GP.out (.int .u8 (rd l0 3))
          have u6 := Kd.R_set u5 b5 (by decide) 3 (.int .u8 (rd l0 3))
          clear b5 l5_ u5
          have b7 := blk_put (cs' := #[.int .u8 (rd l0 0), .int .u8 (rd l0 1), .int .u8 (rd l0 2), .int .u8 (rd l0 3), .int .u8 (rd l0 4), .int .u8 0, .int .u8 0, .int .u8 0, .int .u8 0, .int .u8 0, .int .u8 0, .int .u8 0, .int .u16 0, .slice none 0 0]) b6 4 (.int .u8 (rd l0 4)) rfl
          have l7_ := Below.setCell (p := ⟨gp, 4, none⟩) l6_ GP.out (.int .u8 (rd l0 4))
          have u7 := Kd.R_set u6 b6 (by decide) 4 (.int .u8 (rd l0 4))
          clear b6 l6_ u6
          have b8 := blk_put (cs' := #[.int .u8 (rd l0 0), .int .u8 (rd l0 1), .int .u8 (rd l0 2), .int .u8 (rd l0 3), .int .u8 (rd l0 4), .int .u8 (rd l0 5), .int .u8 0, .int .u8 0, .int .u8 0, .int .u8 0, .int .u8 0, .int .u8 0, .int .u16 0, .slice none 0 0]) b7 5 (.int .u8 (rd l0 5)) rfl
          have l8_ := Below.setCell (p := ⟨gp, 5, none⟩) l7_ GP.out (.int .u8 (rd l0 5))
          have u8 := Kd.R_set u7 b7 (by decide) 5 (.int .u8 (rd l0 5))
          clear b7 l7_ u7
          have b9 := blk_put (cs' := #[.int .u8 (rd l0 0), .int .u8 (rd l0 1), .int .u8 (rd l0 2), .int .u8 (rd l0 3), .int .u8 (rd l0 4), .int .u8 (rd l0 5), .int .u8 (rd l0 6), .int .u8 0, .int .u8 0, .int .u8 0, .int .u8 0, .int .u8 0, .int .u16 0, .slice none 0 0]) b8 6 (.int .u8 (rd l0 6)) rfl
          have l9_ := Below.setCell (p := ⟨gp, 6, none⟩) l8_ GP.out (.int .u8 (rd l0 6))
          have u9 := Kd.R_set u8 b8 (by decide) 6 (.int .u8 (rd l0 6))
          clear b8 l8_ u8
          have b10 := blk_put (cs' := #[.int .u8 (rd l0 0), .int .u8 (rd l0 1), .int .u8 (rd l0 2), .int .u8 (rd l0 3), .int .u8 (rd l0 4), .int .u8 (rd l0 5), .int .u8 (rd l0 6), .int .u8 (rd l0 7), .int .u8 0, .int .u8 0, .int .u8 0, .int .u8 0, .int .u16 0, .slice none 0 0]) b9 7 (.int .u8 (rd l0 7)) rfl
          have l10_ := Below.setCell (p := ⟨gp, 7, none⟩) l9_ GP.out (.int .u8 (rd l0 7))
          have u10 := Kd.R_set u9 b9 (by decide) 7 (.int .u8 (rd l0 7))
          clear b9 l9_ u9
          have b11 := blk_put (cs' := #[.int .u8 (rd l0 0), .int .u8 (rd l0 1), .int .u8 (rd l0 2), .int .u8 (rd l0 3), .int .u8 (rd l0 4), .int .u8 (rd l0 5), .int .u8 (rd l0 6), .int .u8 (rd l0 7), .int .u8 (rd l0 8), .int .u8 0, .int .u8 0, .int .u8 0, .int .u16 0, .slice none 0 0]) b10 8 (.int .u8 (rd l0 8)) rfl
          have l11_ := Below.setCell (p := ⟨gp, 8, none⟩) l10_ GP.out (.int .u8 (rd l0 8))
          have u11 := Kd.R_set u10 b10 (by decide) 8 (.int .u8 (rd l0 8))
          clear b10 l10_ u10
          have b12 := blk_put (cs' := #[.int .u8 (rd l0 0), .int .u8 (rd l0 1), .int .u8 (rd l0 2), .int .u8 (rd l0 3), .int .u8 (rd l0 4), .int .u8 (rd l0 5), .int .u8 (rd l0 6), .int .u8 (rd l0 7), .int .u8 (rd l0 8), .int .u8 (rd l0 9), .int .u8 0, .int .u8 0, .int .u16 0, .slice none 0 0]) b11 9 (.int .u8 (rd l0 9)) rfl
          have l12_ := Below.setCell (p := ⟨gp, 9, none⟩) l11_ GP.out (.int .u8 (rd l0 9))
          have u12 := Kd.R_set u11 b11 (by decide) 9 (.int .u8 (rd l0 9))
          clear b11 l11_ u11
          have b13 := blk_put (cs' := #[.int .u8 (rd l0 0), .int .u8 (rd l0 1), .int .u8 (rd l0 2), .int .u8 (rd l0 3), .int .u8 (rd l0 4), .int .u8 (rd l0 5), .int .u8 (rd l0 6), .int .u8 (rd l0 7), .int .u8 (rd l0 8), .int .u8 (rd l0 9), .int .u8 (rd l0 10), .int .u8 0, .int .u16 0, .slice none 0 0]) b12 10 (.int .u8 (rd l0 10)) rfl
          have l13_ := Below.setCell (p := ⟨gp, 10, none⟩) l12_ GP.out (.int .u8 (rd l0 10))
          have u13 := Kd.R_set u12 b12 (by decide) 10 (.int .u8 (rd l0 10))
          clear b12 l12_ u12
          have b14 := blk_put (cs' := #[.int .u8 (rd l0 0), .int .u8 (rd l0 1), .int .u8 (rd l0 2), .int .u8 (rd l0 3), .int .u8 (rd l0 4), .int .u8 (rd l0 5), .int .u8 (rd l0 6), .int .u8 (rd l0 7), .int .u8 (rd l0 8), .int .u8 (rd l0 9), .int .u8 (rd l0 10), .int .u8 (rd l0 11), .int .u16 0, .slice none 0 0]) b13 11 (.int .u8 (rd l0 11)) rfl
          have l14_ := Below.setCell (p := ⟨gp, 11, none⟩) l13_ GP.out (.int .u8 (rd l0 11))
          have u14 := Kd.R_set u13 b13 (by decide) 11 (.int .u8 (rd l0 11))
          clear b13 l13_ u13
          have b15 := blk_put (cs' := #[.int .u8 (rd l0 0), .int .u8 (rd l0 1), .int .u8 (rd l0 2), .int .u8 (rd l0 3), .int .u8 (rd l0 4), .int .u8 (rd l0 5), .int .u8 (rd l0 6), .int .u8 (rd l0 7), .int .u8 (rd l0 8), .int .u8 (rd l0 9), .int .u8 (rd l0 10), .int .u8 (rd l0 11), .int .u16 t, .slice none 0 0]) b14 12 (.int .u16 t) rfl
          have l15_ := Below.setCell (p := ⟨gp, 12, none⟩) l14_ GP.out (.int .u16 t)
          have u15 := Kd.R_set u14 b14 (by decide) 12 (.int .u16 t)
          clear b14 l14_ u14
          have b16 := blk_put (cs' := #[.int .u8 (rd l0 0), .int .u8 (rd l0 1), .int .u8 (rd l0 2), .int .u8 (rd l0 3), .int .u8 (rd l0 4), .int .u8 (rd l0 5), .int .u8 (rd l0 6), .int .u8 (rd l0 7), .int .u8 (rd l0 8), .int .u8 (rd l0 9), .int .u8 (rd l0 10), .int .u8 (rd l0 11), .int .u16 t, .slice Bo b.length co]) b15 13 (.slice Bo b.length co) rfl
          have l16_ := Below.setCell (p := ⟨gp, 13, none⟩) l15_ GP.out (.slice Bo b.length co)
          have u16 := Kd.R_set u15 b15 (by decide) 13 (.slice Bo b.length co)
          clear b15 l15_ u15
          (try simp only [Exit.inBlock, Exit.then])
          refine bodyPost_ret (results_ct rfl _ _ gp 28 #[.int .u8 (rd l0 0), .int .u8 (rd l0 1), .int .u8 (rd l0 2), .int .u8 (rd l0 3), .int .u8 (rd l0 4), .int .u8 (rd l0 5), .int .u8 (rd l0 6), .int .u8 (rd l0 7), .int .u8 (rd l0 8), .int .u8 (rd l0 9), .int .u8 (rd l0 10), .int .u8 (rd l0 11), .int .u16 t, .slice Bo b.length co] (0, 0) _ rfl b16 Try.underlying28 rfl (by kernel_rfl)) rfl ?_
          exact ⟨_, rfl, u16, l16_⟩

end Go.Proofs.Ytnfgmcjgmccggaa.PA
