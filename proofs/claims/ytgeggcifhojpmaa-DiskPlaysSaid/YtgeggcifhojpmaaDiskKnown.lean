import Derived.Test.YtgeggcifhojpmaaDiskRW
import Derived.Laws.CopyRow
import Derived.Laws.MakeOwn
import Derived.Laws.CopyOwn
namespace Go.Proofs.Ytgeggcifhojpmaa.PA
open Go.RowKit Go.Proofs.YtgeggcifhojpmaaW.PrintWords Go.Proofs.YtgeggcifhojpmaaW.PrintLast Go.Proofs.YtgeggcifhojpmaaW.PrintMore
attribute [local go_sem] max2_int min2_int max_two min_two max_three min_three max_four min_four   -- for this text's walks alone
set_option linter.unusedVariables false
set_option linter.unusedSimpArgs false

/-- The row of sevens while it is filled. -/
def dkV (j : Nat) : List Int := List.replicate j 7 ++ List.replicate (64 - j) 0
theorem dkV_step (j : Nat) (h : j < 64) : (dkB (dkV j)).setIfInBounds j (.int .u8 7) = dkB (dkV (j + 1)) := by
  obtain ⟨m, hm⟩ : ∃ m, 64 - j = m + 1 := ⟨64 - j - 1, by omega⟩
  have hm2 : 64 - (j + 1) = m := by omega
  unfold dkV dkB
  rw [hm, hm2, List.replicate_succ (n := m), show List.replicate (j + 1) (7 : Int) = List.replicate j 7 ++ [7] from List.replicate_succ', List.append_assoc, List.setIfInBounds_toArray, List.map_append, List.set_append_right _ _ (by simp), List.length_map, List.length_replicate, Nat.sub_self, List.map_cons, List.set_cons_zero]
  simp
theorem dkV_old (j : Nat) (h : j < 64) : (dkB (dkV j))[j]? = some (.int .u8 0) := by
  obtain ⟨m, hm⟩ : ∃ m, 64 - j = m + 1 := ⟨64 - j - 1, by omega⟩
  unfold dkV dkB
  rw [hm, List.replicate_succ]
  simp
set_option maxHeartbeats 4000000 in
set_option maxRecDepth 100000 in
theorem disk_known.calls (w : World) : Calls Try.prog 6 #[] w fun e w' => e = .returned (.bool true) ∧ Below w.heap.size w w' := by
  have hu49 := Try.underlying49
  have hu27 := Try.underlying27
  go_enter Try.func6, Try.ntmps6
  go_wp2_with fail
  refine (disk_New.calls 2 64 w).mono ?_
  rintro e w1 ⟨g, q, hs, rfl, hd, hn, hb⟩
  rw [show dkS 64 = 64 from rfl, show dkN 2 = 2 from rfl] at hd
  rw [show dkN 2 = 2 from rfl] at hn
  have HD := Aside0.mk hd
  have HN := Aside0.mk hn
  have HB := Aside0.mk hb
  clear hd hb hn
  (try dsimp only)
  go_wp2_with fail
  refine (disk_Blocks.calls HD.out).mono ?_
  rintro e w2 ⟨rfl, ⟨nd, rfl⟩⟩
  rw [HN.out, show ((2 : Nat) : Int) = 2 from rfl]
  (try dsimp only)
  go_wp2_with fail
  refine (disk_Size.calls (HD.out.drewN nd) (by rw [HN.out]; decide)).mono ?_
  rintro e w2 ⟨rfl, ⟨nd2, rfl⟩⟩
  rw [show ((64 : Nat) : Int) = 64 from rfl]
  (try dsimp only)
  have hmk := dk_make 64 (by omega) (by omega)
  rw [show List.replicate (64 : Int).toNat (0 : Int) = dkV 0 from rfl, show (64 : Int).toNat = 64 from rfl] at hmk
  go_upto_region 5 with (fail)
  obtain ⟨c, hc⟩ : ∃ c, c = w1.heap.size := ⟨_, rfl⟩
  have HX : Aside0 (c ≠ g ∧ c ∉ hs ∧ w.heap.size ≤ c) := ⟨by have := HD.out.lt.1; omega, fun hm => by have := HD.out.lt.2.2 c hm; omega, by rw [hc]; exact below_size HB.out⟩
  have n0_ : Aside0 (DK ((w1.drewN (nd + nd2)).alloc (.cells (dkB (dkV 0)) 5)) w.heap.size g q 64 hs (List.replicate 2 (List.replicate 64 0)) (-1) 0 false) := ⟨(HD.out.drewN (nd + nd2)).kept (S := fun _ => False) (DF.of_below (below_alloc (Below.refl _ _) _)) id id (fun _ _ => id)⟩
  have n1_ : Aside0 (((w1.drewN (nd + nd2)).alloc (.cells (dkB (dkV 0)) 5)).heap[c]? = some (.cells (dkB (dkV 0)) 5 (0, 0))) := ⟨by rw [hc]; exact blk_new (w1.drewN (nd + nd2)) _⟩
  have n2_ : Aside0 (Below w.heap.size w ((w1.drewN (nd + nd2)).alloc (.cells (dkB (dkV 0)) 5))) := ⟨below_alloc (pw_below_drewN HB.out _) _⟩
  rw [← hc]
  generalize (w1.drewN (nd + nd2)).alloc (.cells (dkB (dkV 0)) 5) = W at n0_ n1_ n2_ ⊢
  clear HD HB hc hmk
  have HD := n0_
  have HV := n1_
  have HB := n2_
  clear n0_ n1_ n2_
  go_wp2_with fail
  go_loopg [3] 64 (fun kq v3 w' => ∃ (j : Nat), v3 = .int .i64 (j : Int) ∧ Aside0 (kq + j = 64) ∧ Aside0 (DK w' w.heap.size g q 64 hs (List.replicate 2 (List.replicate 64 0)) (-1) 0 false) ∧ Aside0 (w'.heap[c]? = some (.cells (dkB (dkV j)) 5 (0, 0))) ∧ Aside0 (Below w.heap.size w w'))
  case atStart => exact ⟨0, rfl, ⟨rfl⟩, ⟨HD.out⟩, ⟨HV.out⟩, ⟨HB.out⟩⟩
  case round =>
    clear HD HV HB
    obtain ⟨j, rfl, Hk, HD, HV, HB⟩ := hrel
    by_cases c6 : j < 64
    · have c6b : decide ((j : Int) < 64) = true := decide_eq_true (by omega)
      have c6c : decide (j < 64) = true := decide_eq_true c6
      have q0 : ((j : Int) < 64) = True := eq_true (by omega)
      have q1 : (j < 64) = True := eq_true c6
      have H6 := Aside0.mk c6
      clear c6
      have w7 : wrap64 ((j : Int) + 1) = ((j + 1 : Nat) : Int) := by unfold wrap64; have := H6.out; omega
      have hs0 : wr.cell? ⟨c, j, none⟩ = some (.int .u8 0) := (blk_cell HV.out j).trans (dkV_old j H6.out)
      have hfs0 := blk_frozen HV.out j
      go_wp2
      go_roundg (gk - 1)
      case measure => have := Hk.out; have := H6.out; omega
      case rel => exact ⟨j + 1, by first | rfl | (simp [w7]; done) | (simp only [w7]; rfl), ⟨by have := Hk.out; have := H6.out; omega⟩, ⟨HD.out.kept (S := fun k => k = c) (DF.set (DF.refl (fun k => k = c) wr) (p := ⟨c, j, none⟩) rfl _) (fun e => HX.out.1 e.symm) (fun e => blk_ne HV.out HD.out.row (by decide) e.symm) (fun b hm e => HX.out.2.1 (e ▸ hm))⟩, ⟨blk_put HV.out j _ (dkV_step j H6.out)⟩, ⟨Below.setCell (p := ⟨c, j, none⟩) HB.out HX.out.2.2 _⟩⟩
    · have c6b : decide ((j : Int) < 64) = false := decide_eq_false (by omega)
      have c6c : decide (j < 64) = false := decide_eq_false c6
      obtain rfl : j = 64 := by have := Hk.out; omega
      clear c6
      go_wp2_with fail
      refine (disk_Cut.calls HD.out (by rw [HN.out]; decide) 0 3).mono ?_
      rintro e w2 ⟨rfl, hd, hf⟩
      (try dsimp only)
      have n0_ : Aside0 (DK w2 w.heap.size g q 64 hs (List.replicate 2 (List.replicate 64 0)) 0 ((3 : Nat) : Int) false) := ⟨hd⟩
      have n1_ : Aside0 (w2.heap[c]? = some (.cells (dkB (dkV 64)) 5 (0, 0))) := ⟨(hf.block c (blk_lt HV.out) HX.out.1).trans HV.out⟩
      have n2_ : Aside0 (Below w.heap.size w w2) := ⟨hf.below HB.out (below_size HB.out) (fun i e => by subst e; exact HD.out.own.1)⟩
      clear HD HV HB hd hf
      have HD := n0_
      have HV := n1_
      have HB := n2_
      clear n0_ n1_ n2_
      go_wp2_with fail
      refine (disk_Write.fell HD.out 1 3 (List.replicate 64 0) (by rw [HN.out]; decide) rfl rfl ⟨c, 0, none⟩ (dkV 64) 64 (by decide) (fun j x hx => by rw [add_at]; exact (blk_cell HV.out j).trans (dkB_get hx)) (by decide) rfl rfl (by decide) HX.out.1).mono ?_
      rintro e w3 ⟨rfl, hd, hf⟩
      (try dsimp only)
      have n0_ := Aside0.mk hd
      have n1_ : Aside0 (w3.heap[c]? = some (.cells (dkB (dkV 64)) 5 (0, 0))) := ⟨(hf.block c (blk_lt HV.out) (fun e => e.elim HX.out.1 HX.out.2.1)).trans HV.out⟩
      have n2_ : Aside0 (Below w.heap.size w w3) := ⟨hf.below HB.out (below_size HB.out) (fun i e => e.elim (fun e => by subst e; exact HD.out.own.1) (fun e => HD.out.own.2.2 i e))⟩
      clear HD HV HB hd hf
      have HD := n0_
      have HV := n1_
      have HB := n2_
      clear n0_ n1_ n2_
      go_wp2_with fail
      refine (disk_Write.refused HD.out 1 (by rw [show dkAt hs.length true 1 = 42 from rfl]; decide) ⟨c, 0, none⟩ (dkV 64) 64 (by decide)).mono ?_
      rintro e w4 ⟨rfl, ⟨nd3, rfl⟩⟩
      (try dsimp only)
      rw [show dkAt hs.length true 1 = 42 from rfl]
      go_wp2_with fail
      refine (disk_Dead.calls (HD.out.drewN nd3)).mono ?_
      rintro e w5 ⟨rfl, ⟨nd4, rfl⟩⟩
      (try dsimp only)
      go_wp2_with fail
      refine (disk_Power.calls (HD.out.drewN (nd3 + nd4))).mono ?_
      rintro e w5 ⟨rfl, hd, hf⟩
      (try dsimp only)
      have n0_ := Aside0.mk hd
      have n2_ : Aside0 (Below w.heap.size w w5) := ⟨(show DF (fun k => k = g) (w3.drewN (nd3 + nd4)) w5 from hf).below (pw_below_drewN HB.out _) (below_size (pw_below_drewN HB.out _)) (fun i e => by subst e; exact HD.out.own.1)⟩
      clear HD HV HB hd hf
      have HD := n0_
      have HB := n2_
      clear n0_ n2_
      go_wp2_with fail
      refine (disk_Read.ok HD.out (by decide) 1 _ (by rw [HN.out]; decide) rfl rfl).mono ?_
      rintro e w6 ⟨b, rfl, hb, hlb, hbl⟩
      (try dsimp only)
      have n0_ := Aside0.mk hb
      have n2_ : Aside0 (Below w.heap.size w w6) := ⟨below_step HB.out hbl⟩
      clear HD HB hb hbl hlb
      have HB := n2_
      have d2 : w6.cell? ⟨b, 2, none⟩ = some (.int .u8 7) := (blk_cell n0_.out 2).trans rfl
      have d3 : w6.cell? ⟨b, 3, none⟩ = some (.int .u8 0) := (blk_cell n0_.out 3).trans rfl
      clear n0_ n2_
      go_wp2
      (try simp only [Exit.inBlock, Exit.then])
      go_ret
      exact ⟨rfl, HB.out⟩
end Go.Proofs.Ytgeggcifhojpmaa.PA
