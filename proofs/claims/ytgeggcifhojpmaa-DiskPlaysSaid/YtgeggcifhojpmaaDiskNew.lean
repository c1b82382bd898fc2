import Derived.Test.YtgeggcifhojpmaaDiskWords
import Derived.Test.YtgeggcifhojpmaaPAx1
import Derived.Test.YtgeggcifhojpmaaPAx2
import Derived.Test.YtgeggcifhojpmaaPAx3
import Derived.Laws.CopyRow
import Derived.Laws.MakeOwn
namespace Go.Proofs.Ytgeggcifhojpmaa.PA
open Go.RowKit Go.Proofs.YtgeggcifhojpmaaW.PrintWords Go.Proofs.YtgeggcifhojpmaaW.PrintLast Go.Proofs.YtgeggcifhojpmaaW.PrintMore
attribute [local go_sem] max2_int min2_int max_two min_two max_three min_three max_four min_four   -- for this text's walks alone
set_option linter.unusedVariables false
set_option linter.unusedSimpArgs false

/-- The row of rows while it is filled. -/
def dkF (s n : Nat) (hs : List Nat) : Array Value := ((hs.map fun b => Value.slice (some ⟨b, 0, none⟩) s s) ++ List.replicate (n - hs.length) (Value.slice none 0 0)).toArray
theorem dkF_step (s n : Nat) (hs : List Nat) (b : Nat) (h : hs.length < n) : (dkF s n hs).setIfInBounds hs.length (.slice (some ⟨b, 0, none⟩) s s) = dkF s n (hs ++ [b]) := by
  obtain ⟨m, hm⟩ : ∃ m, n - hs.length = m + 1 := ⟨n - hs.length - 1, by omega⟩
  have hm2 : n - (hs ++ [b]).length = m := by rw [List.length_append, List.length_singleton]; omega
  unfold dkF
  rw [hm, hm2, List.setIfInBounds_toArray, List.set_append_right _ _ (by simp), List.length_map, Nat.sub_self, List.replicate_succ, List.set_cons_zero]
  simp
theorem dkF_old (s n : Nat) (hs : List Nat) (h : hs.length < n) : (dkF s n hs)[hs.length]? = some (.slice none 0 0) := by
  obtain ⟨m, hm⟩ : ∃ m, n - hs.length = m + 1 := ⟨n - hs.length - 1, by omega⟩
  unfold dkF
  rw [hm, List.replicate_succ]
  simp
theorem dkF_end (s n : Nat) (hs : List Nat) (h : hs.length = n) : dkF s n hs = dkR s hs := by
  unfold dkF dkR
  rw [h, Nat.sub_self]
  simp
def dkN (a : Int) : Nat := (mn (mx a 1) 64).toNat
def dkS (a : Int) : Nat := (mn (mx a 64) 65536).toNat
theorem dkN_range (a : Int) : mn (mx a 1) 64 = (dkN a : Int) ∧ 1 ≤ dkN a ∧ dkN a ≤ 64 := by unfold dkN mn mx; split <;> split <;> omega
theorem dkS_range (a : Int) : mn (mx a 64) 65536 = (dkS a : Int) ∧ 64 ≤ dkS a ∧ dkS a ≤ 65536 := by unfold dkS mn mx; split <;> split <;> omega
def disk_New.T5 : Bool × List (List Nat × List Nat) := (true, [([], []), ([0], [0]), ([1], [1]), ([2], [2]), ([], []), ([], []), ([5], [5]), ([6, 6], [6]), ([3, 4, 0, 1, 2, 3, 4, 5, 6, 7], [3, 4]), ([8, 7, 6, 0, 1, 2, 3, 4, 5, 6, 7], [7, 8])])
def disk_New.B5 : List Nat := [0, 1, 3, 7, 0, 0, 32, 96, 255, 511]
theorem disk_New.tab5 : rtab .any (opsOf Try.f7 5) = disk_New.T5 := by kernel_rfl
theorem disk_New.bits5 : waitsOk disk_New.T5.2 disk_New.B5 = true := by kernel_rfl
set_option maxHeartbeats 4000000 in
set_option maxRecDepth 100000 in
theorem disk_New.calls (a0 a1 : Int) (w : World) : Calls Try.prog 7 #[.int .i64 a0, .int .i64 a1] w fun e w' => ∃ g h hs, e = .returned (.pointer (some ⟨g, 0, none⟩)) ∧ DK w' w.heap.size g h (dkS a1) hs (List.replicate (dkN a0) (List.replicate (dkS a1) 0)) (-1) 0 false ∧ hs.length = dkN a0 ∧ Below w.heap.size w w' := by
  have hu49 := Try.underlying49
  have HB := Aside0.mk (Below.refl w.heap.size w)
  obtain ⟨en, rn1, rn2⟩ := dkN_range a0
  obtain ⟨es, rs1, rs2⟩ := dkS_range a1
  have hmk0 := dk_makes (dkN a0 : Int) (by omega) (by omega)
  rw [Int.toNat_natCast] at hmk0
  have RN := Aside0.mk (And.intro rn1 rn2)
  have RS := Aside0.mk (And.intro rs1 rs2)
  have EN := Aside0.mk en
  have ES := Aside0.mk es
  clear rn1 rn2 rs1 rs2 en es
  go_enter Try.func7, Try.ntmps7
  go_wp2_with fail
  refine (disk_within.calls a0 1 64 (dkN a0 : Int) _ (by unfold disk_within.f; rw [EN.out])).mono ?_
  rintro e w1 ⟨rfl, hb⟩
  have n0_ := Aside0.mk (below_step (by repeat (first | (with_reducible first | exact HB.out | apply below_alloc | apply pw_below_drewN | apply below_drew1) | exact HB.out)) hb)
  clear HB hb
  have HB := n0_
  clear n0_
  (try dsimp only)
  go_upto_region 2 with (fail)
  obtain ⟨h, hh⟩ : ∃ h, h = w1.heap.size := ⟨_, rfl⟩
  obtain ⟨g, hg⟩ : ∃ g, g = w1.heap.size + 1 := ⟨_, rfl⟩
  have HS := below_size HB.out
  have GH := Aside0.mk (show w.heap.size ≤ h ∧ w.heap.size ≤ g ∧ h ≠ g by omega)
  have HT : Aside0 (((w1.alloc (.cells (Array.replicate (dkN a0) (Value.slice none 0 0)) 27)).alloc (.cells #[.slice (some ⟨w1.heap.size, 0, none⟩) (dkN a0) (dkN a0), .int .i64 (-1), .int .i64 0, .bool false] 49)).heap[g]? = some (.cells #[.slice (some ⟨h, 0, none⟩) (dkN a0) (dkN a0), .int .i64 (-1), .int .i64 0, .bool false] 49 (0, 0))) := ⟨by
    rw [hg, hh]
    have := blk_new (w1.alloc (.cells (Array.replicate (dkN a0) (Value.slice none 0 0)) 27)) (.cells #[.slice (some ⟨w1.heap.size, 0, none⟩) (dkN a0) (dkN a0), .int .i64 (-1), .int .i64 0, .bool false] 49)
    simpa using this⟩
  have HR : Aside0 (((w1.alloc (.cells (Array.replicate (dkN a0) (Value.slice none 0 0)) 27)).alloc (.cells #[.slice (some ⟨w1.heap.size, 0, none⟩) (dkN a0) (dkN a0), .int .i64 (-1), .int .i64 0, .bool false] 49)).heap[h]? = some (.cells (dkF (dkS a1) (dkN a0) []) 27 (0, 0))) := ⟨by
    rw [hh, show dkF (dkS a1) (dkN a0) [] = Array.replicate (dkN a0) (Value.slice none 0 0) from by simp [dkF]]
    exact blk_alloc (blk_new w1 _) _⟩
  have HB2 := Aside0.mk (below_alloc (below_alloc HB.out (.cells (Array.replicate (dkN a0) (Value.slice none 0 0)) 27)) (.cells #[.slice (some ⟨w1.heap.size, 0, none⟩) (dkN a0) (dkN a0), .int .i64 (-1), .int .i64 0, .bool false] 49))
  rw [← hh] at HT HR HB2 ⊢
  rw [show h + 1 = g by omega]
  generalize (w1.alloc (.cells (Array.replicate (dkN a0) (Value.slice none 0 0)) 27)).alloc (.cells #[.slice (some ⟨h, 0, none⟩) (dkN a0) (dkN a0), .int .i64 (-1), .int .i64 0, .bool false] 49) = w2 at HT HR HB2 ⊢
  clear HB hh hg HS hmk0
  have HB := HB2
  clear HB2
  have ht0 : w2.cell? ⟨g, 0, none⟩ = some (.slice (some ⟨h, 0, none⟩) (dkN a0) (dkN a0)) := (blk_cell HT.out 0).trans rfl
  go_wp2_with fail
  clear ht0
  go_loopg [17] (dkN a0) (fun kq v17 w' => ∃ (hs : List Nat), v17 = .int .i64 (hs.length : Int) ∧ Aside0 (kq + hs.length = dkN a0) ∧ Aside0 (w'.heap[g]? = some (.cells #[.slice (some ⟨h, 0, none⟩) (dkN a0) (dkN a0), .int .i64 (-1), .int .i64 0, .bool false] 49 (0, 0))) ∧ Aside0 (w'.heap[h]? = some (.cells (dkF (dkS a1) (dkN a0) hs) 27 (0, 0))) ∧ Aside0 (hs.Nodup ∧ ∀ b ∈ hs, w.heap.size ≤ b ∧ w'.heap[b]? = some (.cells (dkB (List.replicate (dkS a1) 0)) 5 (0, 0))) ∧ Aside0 (Below w.heap.size w w'))
  case atStart => exact ⟨[], rfl, ⟨rfl⟩, ⟨HT.out⟩, ⟨HR.out⟩, ⟨List.nodup_nil, fun _ hb => by cases hb⟩, ⟨HB.out⟩⟩
  case round =>
    clear HT HR HB
    obtain ⟨hs, rfl, Hk, HT, HR, HE, HB⟩ := hrel
    by_cases c6 : hs.length < dkN a0
    · have c6b : decide ((hs.length : Int) < (dkN a0 : Int)) = true := decide_eq_true (by omega)
      have c6c : decide (hs.length < dkN a0) = true := decide_eq_true c6
      have H6 := Aside0.mk c6
      clear c6
      go_upto_region 5 with (fail)
      have hmk1 := dk_make (dkS a1 : Int) (by omega) (by have := RS.out; omega)
      rw [Int.toNat_natCast] at hmk1
      have q1 : ((hs.length : Int) < (dkN a0 : Int)) = True := eq_true (by have := H6.out; omega)
      have q2 : (hs.length < dkN a0) = True := eq_true H6.out
      refine start_ (n := 10) (S := fun w' => w'.cell? ⟨g, 0, none⟩ = some (.slice (some ⟨h, 0, none⟩) (dkN a0) (dkN a0))) (ds := []) #[false, false, false, false, false, false, false, false, false, false] (by kernel_rfl) rfl rfl ((blk_cell HT.out 0).trans rfl) (fun hHeld => ?_)
      refine with_tabW disk_New.tab5 disk_New.bits5 (fun HT_ HW_ => ?_)
      refine pure_ (i := 0) (N := some 20) (v := ?_) (a' := ?_) #[true, false, false, false, false, false, false, false, false, false] rfl rfl (any_of HT_.out (by kernel_rfl)) (fun _ _ _ h => h) (Or.inl ⟨by rfl, ?_⟩) ?_ ?_
      rotate_left
      · intro w'
        go_simp
        with_reducible rfl
      rotate_left
      · simp only [Act.put, List.setIfInBounds_toArray, List.set_cons_zero, List.set_cons_succ, i64_w, i32_w]
        rfl
      refine pure_ (i := 1) (N := some 21) (v := ?_) (a' := ?_) #[true, true, false, false, false, false, false, false, false, false] rfl rfl (any_of HT_.out (by kernel_rfl)) (fun _ _ _ h => h) (Or.inl ⟨by rfl, ?_⟩) ?_ ?_
      rotate_left
      · intro w'
        go_simp
        with_reducible rfl
      rotate_left
      · simp only [Act.put, List.setIfInBounds_toArray, List.set_cons_zero, List.set_cons_succ, i64_w, i32_w]
        rfl
      refine pure_ (i := 2) (N := some 22) (v := ?_) (a' := ?_) #[true, true, true, false, false, false, false, false, false, false] rfl rfl (any_of HT_.out (by kernel_rfl)) (fun _ _ _ h => h) (Or.inl ⟨by rfl, ?_⟩) ?_ ?_
      rotate_left
      · intro w'
        go_simp
        with_reducible rfl
      rotate_left
      · simp only [Act.put, List.setIfInBounds_toArray, List.set_cons_zero, List.set_cons_succ, i64_w, i32_w]
        rfl
      refine take_ (i := 3) (N := some 23) (v := ?_) (a' := ?_) #[true, true, true, true, false, false, false, false, false, false] rfl rfl (take_ofW HT_.out HW_.out (by kernel_rfl)) (fun _ _ _ h => h) (Or.inl ⟨by rfl, ?_⟩) hHeld ?_ ?_
      rotate_left
      · intro w' s0
        go_simp
        with_reducible rfl
      rotate_left
      · simp only [Act.put, List.setIfInBounds_toArray, List.set_cons_zero, List.set_cons_succ, i64_w, i32_w]
        rfl
      refine pure_ (i := 4) (N := some 24) (v := ?_) (a' := ?_) #[true, true, true, true, true, false, false, false, false, false] rfl rfl (any_of HT_.out (by kernel_rfl)) (fun _ _ _ h => h) (Or.inl ⟨by rfl, ?_⟩) ?_ ?_
      rotate_left
      · intro w'
        go_simp
        with_reducible rfl
      rotate_left
      · simp only [Act.put, List.setIfInBounds_toArray, List.set_cons_zero, List.set_cons_succ, i64_w, i32_w]
        rfl
      refine pure_ (i := 5) (N := some 25) (v := ?_) (a' := ?_) #[true, true, true, true, true, true, false, false, false, false] rfl rfl (any_of HT_.out (by kernel_rfl)) (fun _ _ _ h => h) (Or.inl ⟨by rfl, ?_⟩) ?_ ?_
      rotate_left
      · intro w'
        go_simp
        with_reducible rfl
      rotate_left
      · simp only [Act.put, List.setIfInBounds_toArray, List.set_cons_zero, List.set_cons_succ, i64_w, i32_w]
        rfl
      refine one_ (i := 6) (N := some 26) #[true, true, true, true, true, true, true, false, false, false] rfl rfl (one_of HT_.out (by kernel_rfl)) (by decide) (fun K hK => ?_)
      have n0_ := Aside0.mk (blk_drew HT.out)
      have n1_ := Aside0.mk (blk_drew HR.out)
      have n2_ : Aside0 (hs.Nodup ∧ ∀ b ∈ hs, w.heap.size ≤ b ∧ wr.drew.heap[b]? = some (.cells (dkB (List.replicate (dkS a1) 0)) 5 (0, 0))) := ⟨HE.out⟩
      have n3_ := Aside0.mk (below_drew1 HB.out)
      clear HT HR HE HB
      have HT := n0_
      have HR := n1_
      have HE := n2_
      have HB := n3_
      clear n0_ n1_ n2_ n3_
      generalize wr.drew = w3 at HT HR HE HB hHeld ⊢
      refine goes_ Try.func20 (by kernel_rfl) rfl #[.int .i64 a1, .int .i64 64, .int .i64 65536] (by rfl) rfl rfl (by first | rfl | (go_simp; done)) ?_
      refine (disk_within.calls a1 64 65536 (dkS a1 : Int) _ (by unfold disk_within.f; rw [ES.out])).mono ?_
      rintro e w4 ⟨rfl, hb⟩
      refine ⟨_, rfl, ?_⟩
      have n0_ := Aside0.mk (blk_below HT.out hb)
      have n1_ := Aside0.mk (blk_below HR.out hb)
      have n2_ : Aside0 (hs.Nodup ∧ ∀ b ∈ hs, w.heap.size ≤ b ∧ w4.heap[b]? = some (.cells (dkB (List.replicate (dkS a1) 0)) 5 (0, 0))) := ⟨HE.out.1, fun b hm => ⟨(HE.out.2 b hm).1, blk_below (HE.out.2 b hm).2 hb⟩⟩
      have n3_ := Aside0.mk (below_step HB.out hb)
      clear HT HR HE HB hb
      have HT := n0_
      have HR := n1_
      have HE := n2_
      have HB := n3_
      clear n0_ n1_ n2_ n3_
      refine hK.out _ _ ((blk_cell HT.out 0).trans rfl) (fun hHeld => ?_)
      clear hK K
      refine norm_ (a' := ?_) ?_ ?_
      rotate_left
      · show Act.put _ (some 26) _ = _
        simp only [Act.put, List.setIfInBounds_toArray, List.set_cons_zero, List.set_cons_succ, i64_w, i32_w]
        rfl
      refine one_ (i := 7) (N := some 27) #[true, true, true, true, true, true, true, true, false, false] rfl rfl (one_of HT_.out (by kernel_rfl)) (by decide) (fun K hK => ?_)
      refine value_ (v := .slice (some ⟨w4.heap.size, 0, none⟩) (dkS a1) (dkS a1)) (w1 := w4.alloc (.cells (dkB (List.replicate (dkS a1) 0)) 5)) (by rfl) rfl ?_ ?_
      · have hm_ := hmk1 w4
        go_simp
      obtain ⟨b, hbq⟩ : ∃ b, b = w4.heap.size := ⟨_, rfl⟩
      rw [← hbq]
      have n0_ := Aside0.mk (blk_alloc HT.out (.cells (dkB (List.replicate (dkS a1) 0)) 5))
      have n1_ := Aside0.mk (blk_alloc HR.out (.cells (dkB (List.replicate (dkS a1) 0)) 5))
      have n2_ : Aside0 ((hs ++ [b]).Nodup ∧ ∀ x ∈ hs ++ [b], w.heap.size ≤ x ∧ (w4.alloc (.cells (dkB (List.replicate (dkS a1) 0)) 5)).heap[x]? = some (.cells (dkB (List.replicate (dkS a1) 0)) 5 (0, 0))) := ⟨by
        refine ⟨?_, fun x hm => ?_⟩
        · rw [List.nodup_append]
          refine ⟨HE.out.1, by simp, fun x hx y hy => ?_⟩
          have h1 := blk_lt (HE.out.2 x hx).2
          have h2 : y = b := by simpa using hy
          omega
        · rcases List.mem_append.1 hm with hx | hx
          · exact ⟨(HE.out.2 x hx).1, blk_alloc (HE.out.2 x hx).2 _⟩
          · have h2 : x = b := by simpa using hx
            subst h2
            subst hbq
            exact ⟨below_size HB.out, blk_new w4 _⟩⟩
      have n3_ := Aside0.mk (below_alloc HB.out (.cells (dkB (List.replicate (dkS a1) 0)) 5))
      clear HT HR HE HB
      have HT := n0_
      have HR := n1_
      have HE := n2_
      have HB := n3_
      clear n0_ n1_ n2_ n3_ hbq hmk1
      generalize w4.alloc (.cells (dkB (List.replicate (dkS a1) 0)) 5) = w5 at HT HR HE HB ⊢
      refine hK.out _ _ ((blk_cell HT.out 0).trans rfl) (fun hHeld => ?_)
      clear hK K
      refine norm_ (a' := ?_) ?_ ?_
      rotate_left
      · show Act.put _ (some 27) _ = _
        simp only [Act.put, List.setIfInBounds_toArray, List.set_cons_zero, List.set_cons_succ, i64_w, i32_w]
        rfl
      refine pure_ (i := 8) (N := some 28) (v := ?_) (a' := ?_) #[true, true, true, true, true, true, true, true, true, false] rfl rfl (any_of HT_.out (by kernel_rfl)) (fun _ _ _ h => h) (Or.inl ⟨by rfl, ?_⟩) ?_ ?_
      rotate_left
      · intro w'
        go_simp
        with_reducible rfl
      rotate_left
      · simp only [Act.put, List.setIfInBounds_toArray, List.set_cons_zero, List.set_cons_succ, i64_w, i32_w]
        rfl
      refine one_ (i := 9) (N := none) #[true, true, true, true, true, true, true, true, true, true] rfl rfl (one_of HT_.out (by kernel_rfl)) (by decide) (fun K hK => ?_)
      have hs0 : w5.cell? ⟨h, hs.length, none⟩ = some (.slice none 0 0) := (blk_cell HR.out hs.length).trans (dkF_old _ _ hs H6.out)
      have hfs0 := blk_frozen HR.out hs.length
      refine skip_ (w1 := w5.setCell ⟨h, hs.length, none⟩ (.slice (some ⟨b, 0, none⟩) (dkS a1) (dkS a1))) (by rfl) rfl ?_ ?_
      · go_simp
      have n0_ := Aside0.mk (blk_far HT.out (p := ⟨h, hs.length, none⟩) (fun e => GH.out.2.2 e.symm) (.slice (some ⟨b, 0, none⟩) (dkS a1) (dkS a1)))
      have n1_ := Aside0.mk (blk_put (cs' := dkF (dkS a1) (dkN a0) (hs ++ [b])) HR.out hs.length (.slice (some ⟨b, 0, none⟩) (dkS a1) (dkS a1)) (dkF_step _ _ hs b H6.out))
      have n2_ : Aside0 ((hs ++ [b]).Nodup ∧ ∀ x ∈ hs ++ [b], w.heap.size ≤ x ∧ (w5.setCell ⟨h, hs.length, none⟩ (.slice (some ⟨b, 0, none⟩) (dkS a1) (dkS a1))).heap[x]? = some (.cells (dkB (List.replicate (dkS a1) 0)) 5 (0, 0))) := ⟨HE.out.1, fun x hm => ⟨(HE.out.2 x hm).1, blk_far (HE.out.2 x hm).2 (p := ⟨h, hs.length, none⟩) (blk_ne (HE.out.2 x hm).2 HR.out (by decide)) _⟩⟩
      have n3_ := Aside0.mk (Below.setCell (p := ⟨h, hs.length, none⟩) HB.out GH.out.1 (.slice (some ⟨b, 0, none⟩) (dkS a1) (dkS a1)))
      clear HT HR HE HB hs0 hfs0
      have HT := n0_
      have HR := n1_
      have HE := n2_
      have HB := n3_
      clear n0_ n1_ n2_ n3_
      generalize w5.setCell ⟨h, hs.length, none⟩ (.slice (some ⟨b, 0, none⟩) (dkS a1) (dkS a1)) = w6 at HT HR HE HB ⊢
      refine hK.out _ _ ((blk_cell HT.out 0).trans rfl) (fun hHeld => ?_)
      clear hK K
      refine done_ (done_of HT_.out (by kernel_rfl)) ?_
      clear HT_ HW_ hHeld
      have w7 : wrap64 ((hs.length : Int) + 1) = ((hs.length + 1 : Nat) : Int) := by unfold wrap64; have := H6.out; have := RN.out; omega
      have w8 : (hs ++ [b]).length = hs.length + 1 := by simp
      (try simp only [Exit.inBlock, Exit.then])
      go_wp2
      go_roundg (gk - 1)
      case measure => have := Hk.out; have := H6.out; omega
      case rel => exact ⟨hs ++ [b], by first | rfl | (simp [w7]; done) | (simp only [w7, w8]; rfl), ⟨by have := Hk.out; have := H6.out; rw [w8]; omega⟩, ⟨HT.out⟩, ⟨HR.out⟩, ⟨HE.out⟩, ⟨HB.out⟩⟩
    · have c6b : decide ((hs.length : Int) < (dkN a0 : Int)) = false := decide_eq_false (by omega)
      have c6c : decide (hs.length < dkN a0) = false := decide_eq_false c6
      have el : hs.length = dkN a0 := by have := Hk.out; omega
      clear c6
      go_wp2
      (try simp only [Exit.inBlock, Exit.then])
      go_ret
      rw [dkF_end _ _ hs el] at HR
      refine ⟨g, h, hs, rfl, ⟨by rw [el]; exact HT.out, HR.out, by simp [el], HE.out.1, fun i x l hx hl => ?_, GH.out.2.1, GH.out.1, fun x hx => (HE.out.2 x hx).1⟩, el, HB.out⟩
      have hl2 : l = List.replicate (dkS a1) 0 := List.eq_of_mem_replicate (List.mem_of_getElem? hl)
      subst hl2
      exact ⟨by simp, (HE.out.2 x (List.mem_of_getElem? hx)).2⟩
end Go.Proofs.Ytgeggcifhojpmaa.PA
