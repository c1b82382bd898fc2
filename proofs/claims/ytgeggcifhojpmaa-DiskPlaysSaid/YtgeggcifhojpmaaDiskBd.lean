import Derived.Test.YtgeggcifhojpmaaDiskKnown
import Derived.Laws.CopyRow
import Derived.Laws.MakeOwn
import Derived.Laws.CopyOwn
namespace Go.Proofs.Ytgeggcifhojpmaa.PA
open Go.RowKit Go.Proofs.YtgeggcifhojpmaaW.PrintWords Go.Proofs.YtgeggcifhojpmaaW.PrintLast Go.Proofs.YtgeggcifhojpmaaW.PrintMore
theorem max2_mx (k k' : IntKind) (x y : Int) : Builtin.max2 (.int k x) (.int k' y) = pure (.int k (mx x y)) := max2_int k k' x y
theorem min2_mn (k k' : IntKind) (x y : Int) : Builtin.min2 (.int k x) (.int k' y) = pure (.int k (mn x y)) := min2_int k k' x y
attribute [local go_sem] max2_mx min2_mn max_two min_two max_three min_three max_four min_four   -- for this text's walks alone
set_option linter.unusedVariables false
set_option linter.unusedSimpArgs false

set_option maxHeartbeats 4000000 in
set_option maxRecDepth 100000 in
theorem lychlaw9_DiskBounds.calls (a0 a1 : Int) (w : World) : Calls Try.prog 3 #[.int .i64 a0, .int .i64 a1] w fun e w' => e = .returned (.bool true) ∧ Below w.heap.size w w' := by
  by_cases k0 : 8 < a0 ∧ 100 < a1
  · have k1 : decide (8 < a0) = true := decide_eq_true k0.1
    have k2 : decide (100 < a1) = true := decide_eq_true k0.2
    go_enter Try.func3, Try.ntmps3
    go_wp2_with fail
    refine (disk_known.calls w).mono ?_
    rintro e w1 ⟨rfl, hb⟩
    have HB := Aside0.mk hb
    clear hb k0
    (try dsimp only)
    go_wp2_with fail
    refine (disk_New.calls a0 (mn 64 70000) _).mono ?_
    rintro e w2 ⟨g, q, hs, rfl, hd, hn, hb⟩
    (try dsimp only)
    have HD := Aside0.mk hd
    have HN := Aside0.mk hn
    have e1 : ((dkN a0 : Int) = mn (mx a0 1) 64) = True := eq_true (dkN_range a0).1.symm
    have e1b : ((dkN a0 : Int) == mn (mx a0 1) 64) = true := beq_iff_eq.2 (dkN_range a0).1.symm
    have e2 : ((dkS (mn 64 70000) : Int) = mn (mx (mn 64 70000) 64) 65536) = True := eq_true (dkS_range (mn 64 70000)).1.symm
    have e2b : ((dkS (mn 64 70000) : Int) == mn (mx (mn 64 70000) 64) 65536) = true := beq_iff_eq.2 (dkS_range (mn 64 70000)).1.symm
    have n_ := Aside0.mk (below_step (pw_below_drewN HB.out 0) hb)
    clear HB hd hn hb
    have HB := n_
    clear n_
    go_wp2_with fail
    refine (disk_Blocks.calls HD.out).mono ?_
    rintro e w3 ⟨rfl, ⟨nd, rfl⟩⟩
    rw [HN.out]
    (try dsimp only)
    go_wp2_with fail
    refine (disk_Size.calls (HD.out.drewN nd) (by rw [HN.out]; have := (dkN_range a0).2.1; omega)).mono ?_
    rintro e w3 ⟨rfl, ⟨nd2, rfl⟩⟩
    (try dsimp only)
    have e1 := (dkN_range a0).1
    have e2 := (dkS_range (mn 64 70000)).1
    go_wp2
    (try simp only [Exit.inBlock, Exit.then])
    go_ret
    exact ⟨rfl, pw_below_drewN HB.out _⟩
  · go_enter Try.func3, Try.ntmps3
    go_wp2_with fail
    refine (disk_known.calls w).mono ?_
    rintro e w1 ⟨rfl, hb⟩
    have HB := Aside0.mk hb
    clear hb
    (try dsimp only)
    by_cases k1 : 8 < a0
    · have k1b : decide (8 < a0) = true := decide_eq_true k1
      have k2b : decide (100 < a1) = false := decide_eq_false (fun h => k0 ⟨k1, h⟩)
      clear k0 k1
      go_wp2_with fail
      refine (disk_New.calls a0 (mn a1 70000) _).mono ?_
      rintro e w2 ⟨g, q, hs, rfl, hd, hn, hb⟩
      (try dsimp only)
      have HD := Aside0.mk hd
      have HN := Aside0.mk hn
      have e1 : ((dkN a0 : Int) = mn (mx a0 1) 64) = True := eq_true (dkN_range a0).1.symm
      have e1b : ((dkN a0 : Int) == mn (mx a0 1) 64) = true := beq_iff_eq.2 (dkN_range a0).1.symm
      have e2 : ((dkS (mn a1 70000) : Int) = mn (mx (mn a1 70000) 64) 65536) = True := eq_true (dkS_range (mn a1 70000)).1.symm
      have e2b : ((dkS (mn a1 70000) : Int) == mn (mx (mn a1 70000) 64) 65536) = true := beq_iff_eq.2 (dkS_range (mn a1 70000)).1.symm
      have n_ := Aside0.mk (below_step (pw_below_drewN HB.out 0) hb)
      clear HB hd hn hb
      have HB := n_
      clear n_
      go_wp2_with fail
      refine (disk_Blocks.calls HD.out).mono ?_
      rintro e w3 ⟨rfl, ⟨nd, rfl⟩⟩
      rw [HN.out]
      (try dsimp only)
      go_wp2_with fail
      refine (disk_Size.calls (HD.out.drewN nd) (by rw [HN.out]; have := (dkN_range a0).2.1; omega)).mono ?_
      rintro e w3 ⟨rfl, ⟨nd2, rfl⟩⟩
      (try dsimp only)
      have e1 := (dkN_range a0).1
      have e2 := (dkS_range (mn a1 70000)).1
      go_wp2
      (try simp only [Exit.inBlock, Exit.then])
      go_ret
      exact ⟨rfl, pw_below_drewN HB.out _⟩

    · have k1b : decide (8 < a0) = false := decide_eq_false k1
      clear k0 k1
      go_wp2_with fail
      refine (disk_New.calls a0 (mn a1 70000) _).mono ?_
      rintro e w2 ⟨g, q, hs, rfl, hd, hn, hb⟩
      (try dsimp only)
      have HD := Aside0.mk hd
      have HN := Aside0.mk hn
      have e1 : ((dkN a0 : Int) = mn (mx a0 1) 64) = True := eq_true (dkN_range a0).1.symm
      have e1b : ((dkN a0 : Int) == mn (mx a0 1) 64) = true := beq_iff_eq.2 (dkN_range a0).1.symm
      have e2 : ((dkS (mn a1 70000) : Int) = mn (mx (mn a1 70000) 64) 65536) = True := eq_true (dkS_range (mn a1 70000)).1.symm
      have e2b : ((dkS (mn a1 70000) : Int) == mn (mx (mn a1 70000) 64) 65536) = true := beq_iff_eq.2 (dkS_range (mn a1 70000)).1.symm
      have n_ := Aside0.mk (below_step (pw_below_drewN HB.out 0) hb)
      clear HB hd hn hb
      have HB := n_
      clear n_
      go_wp2_with fail
      refine (disk_Blocks.calls HD.out).mono ?_
      rintro e w3 ⟨rfl, ⟨nd, rfl⟩⟩
      rw [HN.out]
      (try dsimp only)
      go_wp2_with fail
      refine (disk_Size.calls (HD.out.drewN nd) (by rw [HN.out]; have := (dkN_range a0).2.1; omega)).mono ?_
      rintro e w3 ⟨rfl, ⟨nd2, rfl⟩⟩
      (try dsimp only)
      have e1 := (dkN_range a0).1
      have e2 := (dkS_range (mn a1 70000)).1
      go_wp2
      (try simp only [Exit.inBlock, Exit.then])
      go_ret
      exact ⟨rfl, pw_below_drewN HB.out _⟩

end Go.Proofs.Ytgeggcifhojpmaa.PA
