import Derived.Test.YtgeggcifhojpmaaDiskRW
import Derived.Laws.CopyRow
import Derived.Laws.MakeOwn
import Derived.Laws.CopyOwn
namespace Go.Proofs.Ytgeggcifhojpmaa.PA
open Go.RowKit Go.Proofs.YtgeggcifhojpmaaW.PrintWords Go.Proofs.YtgeggcifhojpmaaW.PrintLast Go.Proofs.YtgeggcifhojpmaaW.PrintMore
attribute [local go_sem] max2_int min2_int max_two min_two max_three min_three max_four min_four   -- for this text's walks alone
set_option linter.unusedVariables false
set_option linter.unusedSimpArgs false

theorem dkB_set (l : List Int) (j : Nat) (x : Int) : (dkB l).setIfInBounds j (.int .u8 x) = dkB (l.set j x) := by unfold dkB; rw [List.setIfInBounds_toArray, List.map_set]
theorem setCell_row {W : World} {b : Nat} {l : List Int} (h : W.heap[b]? = some (.cells (dkB l) 5 (0, 0))) (j : Nat) (x : Int) : W.setCell ⟨b, j, none⟩ (.int .u8 x) = W.setRow b (dkB (l.set j x)) := by
  rw [setCell_eq_setRow W b j (dkB l) 5 (0, 0) _ h, dkB_set]
set_option maxHeartbeats 4000000 in
set_option maxRecDepth 100000 in
theorem disk_Spoil.no {w : World} {base g q s : Nat} {hs : List Nat} {bs : List (List Int)} {cut pre : Int} {dead : Bool} (hd : DK w base g q s hs bs cut pre dead) (hn : 0 < hs.length) (i a x : Int) (hno : ¬ (0 ≤ i ∧ i < (hs.length : Int) ∧ 0 ≤ a ∧ a < (s : Int))) : Calls Try.prog 19 #[.pointer (some ⟨g, 0, none⟩), .int .i64 i, .int .i64 a, .int .u8 x] w fun e w' => e = .returned (.tuple #[]) ∧ Drawn0 w w' := by
  have hu49 := Try.underlying49
  have HD := Aside0.mk hd
  clear hd
  have c0 : w.cell? ⟨g, 0, none⟩ = some (.slice (some ⟨q, 0, none⟩) hs.length hs.length) := (blk_cell HD.out.top 0).trans rfl
  have c1 : w.cell? ⟨g, 1, none⟩ = some (.int .i64 cut) := (blk_cell HD.out.top 1).trans rfl
  have c2 : w.cell? ⟨g, 2, none⟩ = some (.int .i64 pre) := (blk_cell HD.out.top 2).trans rfl
  have c3 : w.cell? ⟨g, 3, none⟩ = some (.bool dead) := (blk_cell HD.out.top 3).trans rfl
  have z0 := blk_frozen HD.out.top 0
  have z1 := blk_frozen HD.out.top 1
  have z2 := blk_frozen HD.out.top 2
  have z3 := blk_frozen HD.out.top 3
  have HN := Aside0.mk hn
  clear hn
  by_cases k1 : 0 ≤ i
  · have k1b : decide (0 ≤ i) = true := decide_eq_true k1
    by_cases k2 : i < (hs.length : Int)
    · have k2b : decide (i < (hs.length : Int)) = true := decide_eq_true k2
      by_cases k3 : 0 ≤ a
      · have k3b : decide (0 ≤ a) = true := decide_eq_true k3
        have k4b : decide (a < (s : Int)) = false := decide_eq_false (fun k4 => hno ⟨k1, k2, k3, k4⟩)
        clear hno k1 k2 k3
        go_enter Try.func19, Try.ntmps19
        go_wp2_with fail
        refine (disk_Size.calls HD.out HN.out).mono ?_
        rintro e w1 ⟨rfl, ⟨nd, rfl⟩⟩
        (try dsimp only)
        go_wp2
        first | go_end0 | ((try simp only [Exit.inBlock, Exit.then]); refine bodyPost_ret (results_none rfl _ _ _) rfl ?_)
        exact ⟨rfl, by repeat (first | exact Drawn0.refl _ | exact ⟨_, rfl⟩ | apply Drawn0.step)⟩
      · have k3b : decide (0 ≤ a) = false := decide_eq_false k3
        clear hno k1 k2 k3
        go_enter Try.func19, Try.ntmps19
        go_wp2
        first | go_end0 | ((try simp only [Exit.inBlock, Exit.then]); refine bodyPost_ret (results_none rfl _ _ _) rfl ?_)
        exact ⟨rfl, by repeat (first | exact Drawn0.refl _ | exact ⟨_, rfl⟩ | apply Drawn0.step)⟩
    · have k2b : decide (i < (hs.length : Int)) = false := decide_eq_false k2
      clear hno k1 k2
      go_enter Try.func19, Try.ntmps19
      go_wp2
      first | go_end0 | ((try simp only [Exit.inBlock, Exit.then]); refine bodyPost_ret (results_none rfl _ _ _) rfl ?_)
      exact ⟨rfl, by repeat (first | exact Drawn0.refl _ | exact ⟨_, rfl⟩ | apply Drawn0.step)⟩
  · have k1b : decide (0 ≤ i) = false := decide_eq_false k1
    clear hno k1
    go_enter Try.func19, Try.ntmps19
    go_wp2
    first | go_end0 | ((try simp only [Exit.inBlock, Exit.then]); refine bodyPost_ret (results_none rfl _ _ _) rfl ?_)
    exact ⟨rfl, by repeat (first | exact Drawn0.refl _ | exact ⟨_, rfl⟩ | apply Drawn0.step)⟩
set_option maxHeartbeats 4000000 in
set_option maxRecDepth 100000 in
theorem disk_Spoil.ok {w : World} {base g q s : Nat} {hs : List Nat} {bs : List (List Int)} {cut pre : Int} {dead : Bool} (hd : DK w base g q s hs bs cut pre dead) (k a : Nat) (x y : Int) (l : List Int) (hk : k < hs.length) (ha : a < s) (hl : bs[k]? = some l) (hy : l[a]? = some y) : Calls Try.prog 19 #[.pointer (some ⟨g, 0, none⟩), .int .i64 (k : Int), .int .i64 (a : Int), .int .u8 x] w fun e w' => e = .returned (.tuple #[]) ∧ DK w' base g q s hs (bs.set k (l.set a (Go.bits .xor .u8 y x))) cut pre dead ∧ DF (fun k => k = g ∨ k ∈ hs) w w' := by
  have hu49 := Try.underlying49
  have HD := Aside0.mk hd
  clear hd
  have c0 : w.cell? ⟨g, 0, none⟩ = some (.slice (some ⟨q, 0, none⟩) hs.length hs.length) := (blk_cell HD.out.top 0).trans rfl
  have c1 : w.cell? ⟨g, 1, none⟩ = some (.int .i64 cut) := (blk_cell HD.out.top 1).trans rfl
  have c2 : w.cell? ⟨g, 2, none⟩ = some (.int .i64 pre) := (blk_cell HD.out.top 2).trans rfl
  have c3 : w.cell? ⟨g, 3, none⟩ = some (.bool dead) := (blk_cell HD.out.top 3).trans rfl
  have z0 := blk_frozen HD.out.top 0
  have z1 := blk_frozen HD.out.top 1
  have z2 := blk_frozen HD.out.top 2
  have z3 := blk_frozen HD.out.top 3
  obtain ⟨b, l_, r0, r1, r2, r3⟩ := HD.out.at hk
  obtain rfl : l_ = l := Option.some.inj (r1.symm.trans hl)
  have HN := Aside0.mk (show 0 < hs.length by omega)
  have H0 := Aside0.mk r0
  have H2 := Aside0.mk r2
  have H3 := Aside0.mk r3
  have k1b : decide (0 ≤ (k : Int)) = true := decide_eq_true (by omega)
  have k2b : decide ((k : Int) < (hs.length : Int)) = true := decide_eq_true (by omega)
  have k3b : decide (0 ≤ (a : Int)) = true := decide_eq_true (by omega)
  have k4b : decide ((a : Int) < (s : Int)) = true := decide_eq_true (by omega)
  have k2c : decide (k < hs.length) = true := decide_eq_true hk
  have k4c : decide (a < s) = true := decide_eq_true ha
  have q0 : ((k : Int) < (hs.length : Int)) = True := eq_true (by omega)
  have q1 : (k < hs.length) = True := eq_true hk
  have q2 : ((a : Int) < (s : Int)) = True := eq_true (by omega)
  have q3 : (a < s) = True := eq_true ha
  have s0 : w.cell? ⟨q, k, none⟩ = some (.slice (some ⟨b, 0, none⟩) s s) := (blk_cell HD.out.row k).trans (dkR_get r0)
  have s1 : w.cell? ⟨b, a, none⟩ = some (.int .u8 y) := (blk_cell r3 a).trans (dkB_get hy)
  have s2 := blk_frozen r3 a
  clear hk hl r1 r0 r2 r3 hy ha
  go_enter Try.func19, Try.ntmps19
  go_wp2_with fail
  refine (disk_Size.calls HD.out HN.out).mono ?_
  rintro e w1 ⟨rfl, ⟨nd, rfl⟩⟩
  (try dsimp only)
  go_wp2
  first | go_end0 | ((try simp only [Exit.inBlock, Exit.then]); refine bodyPost_ret (results_none rfl _ _ _) rfl ?_)
  rw [setCell_row (W := w.drewN _) (blk_drewN H3.out _)]
  exact ⟨rfl, (HD.out.drewN _).setB H0.out (by rw [List.length_set]; exact H2.out), DF.setRow (⟨rfl, rfl, rfl, Nat.le_refl _, fun _ _ _ => rfl⟩ : DF (fun k => k = g ∨ k ∈ hs) w (w.drewN _)) (Or.inr (List.mem_of_getElem? H0.out)) _⟩
end Go.Proofs.Ytgeggcifhojpmaa.PA
