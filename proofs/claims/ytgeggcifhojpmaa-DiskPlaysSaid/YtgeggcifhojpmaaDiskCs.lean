import Derived.Test.YtgeggcifhojpmaaDiskKnown
import Derived.Test.YtgeggcifhojpmaaDiskCopy
import Derived.Laws.CopyRow
import Derived.Laws.MakeOwn
import Derived.Laws.CopyOwn
namespace Go.Proofs.Ytgeggcifhojpmaa.PA
open Go.RowKit Go.Proofs.YtgeggcifhojpmaaW.PrintWords Go.Proofs.YtgeggcifhojpmaaW.PrintLast Go.Proofs.YtgeggcifhojpmaaW.PrintMore
attribute [local go_sem] max2_int min2_int max_two min_two max_three min_three max_four min_four   -- for this text's walks alone
set_option linter.unusedVariables false
set_option linter.unusedSimpArgs false

def lychlaw9_DiskCopies.T3 : Bool × List (List Nat × List Nat) := (true, [([], []), ([], []), ([0, 0], [0]), ([1, 2, 0, 1, 2], [1])])
def lychlaw9_DiskCopies.B3 : List Nat := [0, 0, 1, 7]
theorem lychlaw9_DiskCopies.tab3 : rtab .any (opsOf Try.f4 3) = lychlaw9_DiskCopies.T3 := by kernel_rfl
theorem lychlaw9_DiskCopies.bits3 : waitsOk lychlaw9_DiskCopies.T3.2 lychlaw9_DiskCopies.B3 = true := by kernel_rfl
/-- A copy out of any row: as many bytes as both have. -/
theorem dk_copy_min {W : World} {g : Nat} {A : Option Addr} {cur bl : List Int} {dCap sCap : Nat} (hg : W.heap[g]? = some (.cells (dkB cur) 5 (0, 0))) (hs : Kd.C (Kd.int .u8) W A bl.length bl) :
    (Builtin.copy_ #[27, 27] 3 #[.slice (some ⟨g, 0, none⟩) cur.length dCap, .slice A bl.length sCap]).run Try.prog W = .ok (.int .i64 ((bl.take cur.length).length : Int)) (W.setRow g (dkB (bl.take cur.length ++ cur.drop bl.length))) := by
  obtain ⟨i, hi, hz, hsz, hb⟩ := info_parts info5
  by_cases h0 : Nat.min bl.length cur.length = 0
  · have h1 := run_copy_none (P := Try.prog) W 27 27 3 5 (some ⟨g, 0, none⟩) A cur.length dCap bl.length sCap Try.underlying27 (by rw [hi]; simp [hsz]) h0
    rw [h1]
    have h2 : bl.take cur.length ++ cur.drop bl.length = cur := by
      rcases (show bl.length = 0 ∨ cur.length = 0 by have h5 : min bl.length cur.length = 0 := h0; omega) with h3 | h3
      · rw [List.eq_nil_of_length_eq_zero h3]; simp
      · rw [List.eq_nil_of_length_eq_zero h3]; simp
    have h4 : (bl.take cur.length).length = 0 := by rw [List.length_take]; rw [Nat.min_comm]; exact h0
    rw [h2, setRow_self W g _ _ _ hg, h4]
    rfl
  · obtain ⟨ad, rfl, hc⟩ := hs.2.2 (by
      rcases Nat.eq_zero_or_pos bl.length with h3 | h3
      · rw [h3] at h0; exact absurd (Nat.zero_min _) h0
      · exact h3)
    have h1 := run_copy_row (P := Try.prog) W 27 27 3 5 g 0 cur.length dCap ad bl.length sCap (dkB cur) 5 ((bl.take cur.length).map (Value.int .u8)) Try.underlying27 (by rw [hi]; simp [hsz]) hg (by rw [List.length_map, List.length_take, Nat.min_comm]) (fun j v hv => by
      rw [List.getElem?_map] at hv
      cases h2 : (bl.take cur.length)[j]? with
      | none => rw [h2] at hv; cases hv
      | some x =>
        rw [h2] at hv
        obtain rfl : Value.int .u8 x = v := Option.some.inj hv
        have h3 : bl[j]? = some x := by
          rw [List.getElem?_take] at h2
          split at h2
          · exact h2
          · cases h2
        obtain ⟨c, _, hk, hu⟩ := hc j x h3
        have hk2 : c = [Value.int .u8 x] := hk
        subst hk2
        have := hu 0 _ rfl
        simpa [Kd.int, Kd.scalar] using this) (by simp [dkB]; exact Nat.min_le_left _ _) (fun v hv => by
      obtain ⟨x, _, rfl⟩ := List.mem_map.1 hv
      rfl)
    rw [h1]
    simp [dkB, goInt, List.map_drop]
    rcases Nat.le_total bl.length cur.length with h6 | h6
    · rw [Nat.min_eq_right h6]
    · rw [Nat.min_eq_left h6, List.drop_of_length_le (by simp), List.drop_of_length_le (by simpa using h6)]
theorem kd_of_row {W : World} {g : Nat} {l : List Int} (hg : W.heap[g]? = some (.cells (dkB l) 5 (0, 0))) (hl : l.length ≤ 1000000) : Kd.C (Kd.int .u8) W (some ⟨g, 0, none⟩) l.length l := by
  refine ⟨rfl, by omega, fun _ => ⟨_, rfl, fun j p hp => ⟨[.int .u8 p], rfl, rfl, fun i u hu => ?_⟩⟩⟩
  cases i with
  | zero =>
    obtain rfl : Value.int .u8 p = u := by simpa using hu
    rw [add_at]
    have := (blk_cell hg j).trans (dkB_get hp)
    simpa [Kd.int, Kd.scalar] using this
  | succ n => simp at hu
theorem alloc_size (w : World) (o : Obj) : (w.alloc o).heap.size = w.heap.size + 1 := by simp only [World.alloc, Array.size_push]
section
variable {w w' : World} {base g h s : Nat} {hs : List Nat} {bs : List (List Int)} {cut pre : Int} {dead : Bool}
theorem DK.off (hd : DK w base g h s hs bs cut pre dead) {x : Nat} (hx : x < base) : ¬ (x = g ∨ x ∈ hs) := fun e => e.elim (fun e => by have := hd.own.1; omega) (fun e => by have := hd.own.2.2 x e; omega)
theorem DK.above (hd : DK w base g h s hs bs cut pre dead) {n : Nat} (hn : n ≤ base) : ∀ i, (i = g ∨ i ∈ hs) → n ≤ i := fun i e => e.elim (fun e => by have := hd.own.1; omega) (fun e => by have := hd.own.2.2 i e; omega)
theorem DK.under {b x : Nat} (hl : g < b ∧ h < b ∧ ∀ y ∈ hs, y < b) (hx : b ≤ x) : ¬ (x = g ∨ x ∈ hs) := fun e => e.elim (fun e => by have := hl.1; omega) (fun e => by have := hl.2.2 x e; omega)
theorem DK.below (hd : DK w base g h s hs bs cut pre dead) (hb : Below w.heap.size w w') : DK w' base g h s hs bs cut pre dead := hd.kept (S := fun _ => False) (DF.of_below hb) id id (fun _ _ => id)
end
theorem place2 (c : Int) : ∃ r, lychhelp_Place.f c 2 = some r ∧ (r = 0 ∨ r = 1) := by
  unfold lychhelp_Place.f
  rw [if_neg (by decide)]
  have h1 := Int.tmod_lt_of_pos c (show (0 : Int) < 2 by decide)
  have h2 : -2 < Int.tmod c 2 := by have := Int.lt_tmod_of_pos c (show (0 : Int) < 2 by decide); omega
  by_cases h : Int.tmod c 2 < 0
  · rw [if_pos h]
    exact ⟨_, rfl, by unfold wrap64; omega⟩
  · rw [if_neg h]
    exact ⟨_, rfl, by omega⟩
set_option maxHeartbeats 4000000 in
set_option maxRecDepth 100000 in
theorem lychlaw9_DiskCopies.calls (A0 A1 : Option Addr) (l0 l1 : List Int) (c0 c1 : Nat) (a2 : Int) (w : World) (ha0 : Kd.C (Kd.int .u8) w A0 l0.length l0) (hc0 : l0.length ≤ c0) (ha1 : Kd.C (Kd.int .u8) w A1 l1.length l1) (hc1 : l1.length ≤ c1) : Calls Try.prog 4 #[.slice A0 l0.length c0, .slice A1 l1.length c1, .int .i64 a2] w fun e w' => e = .returned (.bool true) ∧ Below w.heap.size w w' := by
  have hu49 := Try.underlying49
  have hu27 := Try.underlying27
  obtain ⟨pr, hpr, hpc⟩ := place2 a2
  have HPR := Aside0.mk hpr
  have HPC := Aside0.mk hpc
  have HA0 := Aside0.mk (And.intro ha0 hc0)
  have HA1 := Aside0.mk (And.intro ha1 hc1)
  clear hpr hpc ha0 ha1 hc0 hc1
  go_enter Try.func4, Try.ntmps4
  go_wp2_with fail
  refine (disk_known.calls w).mono ?_
  rintro e w1 ⟨rfl, hb⟩
  have HB := Aside0.mk hb
  clear hb
  (try dsimp only)
  have hmk := dk_make 64 (by omega) (by omega)
  rw [show List.replicate (64 : Int).toNat (0 : Int) = dkV 0 from rfl, show (64 : Int).toNat = 64 from rfl] at hmk
  go_upto_region 3 with (fail)
  refine start_ (n := 4) (S := fun w' => True) (ds := []) #[false, false, false, false] (by kernel_rfl) rfl rfl trivial (fun hHeld => ?_)
  refine with_tabW lychlaw9_DiskCopies.tab3 lychlaw9_DiskCopies.bits3 (fun HT_ HW_ => ?_)
  have n_HB : Aside0 (Below w.heap.size w w1.drew) := ⟨below_drew1 HB.out⟩
  clear HB
  have HB := n_HB
  clear n_HB
  generalize w1.drew = w0 at HB hHeld ⊢
  refine join_ (σ := Nat × Nat) 1 #[true, true, true, false] (fun s_ => [(19, .slice (some ⟨s_.1, 0, none⟩) 64 64), (7, .slice (some ⟨s_.1, 0, none⟩) 64 64), (20, .slice (some ⟨s_.2, 0, none⟩) 64 64)]) (fun s_ w' => w'.heap[s_.1]? = some (.cells (dkB (dkV 0)) 5 (0, 0)) ∧ w'.heap[s_.2]? = some (.cells (dkB (dkV 0)) 5 (0, 0)) ∧ Below w.heap.size w w' ∧ w.heap.size ≤ s_.1 ∧ w.heap.size ≤ s_.2 ∧ s_.1 ≠ s_.2) ?_ ?_
  rotate_left
  · intro hCont
    refine two_ (i := 0) (j := 1) (Ni := some 19) (Nj := some 20) #[true, false, false, false] #[false, true, false, false] rfl rfl rfl rfl (two_of HT_.out (by kernel_rfl)) (by decide) (by decide) (fun K hK => ?_) (fun K hK => ?_)
    · skip
      refine value_ (v := .slice (some ⟨w0.heap.size, 0, none⟩) 64 64) (w1 := w0.alloc (.cells (dkB (dkV 0)) 5)) (by rfl) rfl ?_ ?_
      · have hm_ := hmk w0
        go_simp
      refine hK.out _ _ trivial (fun hHeld => ?_)
      clear hK K
      refine norm_ (a' := ?_) ?_ ?_
      rotate_left
      · show Act.put _ (some 19) _ = _
        simp only [Act.put, List.setIfInBounds_toArray, List.set_cons_zero, List.set_cons_succ, i64_w, i32_w]
        rfl
      refine pure_ (i := 2) (N := some 7) (v := ?_) (a' := ?_) #[true, false, true, false] rfl rfl (any_of HT_.out (by kernel_rfl)) (fun _ _ _ h => h) (Or.inl ⟨by rfl, ?_⟩) ?_ ?_
      rotate_left
      · intro w'
        go_simp
        with_reducible rfl
      rotate_left
      · simp only [Act.put, List.setIfInBounds_toArray, List.set_cons_zero, List.set_cons_succ, i64_w, i32_w]
        rfl
      refine one_ (i := 1) (N := some 20) #[true, true, true, false] rfl rfl (one_of HT_.out (by kernel_rfl)) (by decide) (fun K hK => ?_)
      refine value_ (v := .slice (some ⟨(w0.alloc (.cells (dkB (dkV 0)) 5)).heap.size, 0, none⟩) 64 64) (w1 := (w0.alloc (.cells (dkB (dkV 0)) 5)).alloc (.cells (dkB (dkV 0)) 5)) (by rfl) rfl ?_ ?_
      · have hm_ := hmk (w0.alloc (.cells (dkB (dkV 0)) 5))
        go_simp
      refine hK.out _ _ trivial (fun hHeld => ?_)
      clear hK K
      refine norm_ (a' := ?_) ?_ ?_
      rotate_left
      · show Act.put _ (some 20) _ = _
        simp only [Act.put, List.setIfInBounds_toArray, List.set_cons_zero, List.set_cons_succ, i64_w, i32_w]
        rfl
      refine norm_ ?_ (hCont (w0.heap.size, (w0.alloc (.cells (dkB (dkV 0)) 5)).heap.size) _ ⟨blk_alloc (blk_new w0 (.cells (dkB (dkV 0)) 5)) _, blk_new (w0.alloc (.cells (dkB (dkV 0)) 5)) _, below_alloc (below_alloc HB.out _) _, ?_, ?_, ?_⟩)
      · first | rfl | (rw [alloc_size]; rfl)
      · have := below_size HB.out; simp only [alloc_size]; omega
      · have := below_size HB.out; simp only [alloc_size]; omega
      · simp only [alloc_size]; omega

    · skip
      refine value_ (v := .slice (some ⟨w0.heap.size, 0, none⟩) 64 64) (w1 := w0.alloc (.cells (dkB (dkV 0)) 5)) (by rfl) rfl ?_ ?_
      · have hm_ := hmk w0
        go_simp
      refine hK.out _ _ trivial (fun hHeld => ?_)
      clear hK K
      refine norm_ (a' := ?_) ?_ ?_
      rotate_left
      · show Act.put _ (some 20) _ = _
        simp only [Act.put, List.setIfInBounds_toArray, List.set_cons_zero, List.set_cons_succ, i64_w, i32_w]
        rfl
      refine one_ (i := 0) (N := some 19) #[true, true, false, false] rfl rfl (one_of HT_.out (by kernel_rfl)) (by decide) (fun K hK => ?_)
      refine value_ (v := .slice (some ⟨(w0.alloc (.cells (dkB (dkV 0)) 5)).heap.size, 0, none⟩) 64 64) (w1 := (w0.alloc (.cells (dkB (dkV 0)) 5)).alloc (.cells (dkB (dkV 0)) 5)) (by rfl) rfl ?_ ?_
      · have hm_ := hmk (w0.alloc (.cells (dkB (dkV 0)) 5))
        go_simp
      refine hK.out _ _ trivial (fun hHeld => ?_)
      clear hK K
      refine norm_ (a' := ?_) ?_ ?_
      rotate_left
      · show Act.put _ (some 19) _ = _
        simp only [Act.put, List.setIfInBounds_toArray, List.set_cons_zero, List.set_cons_succ, i64_w, i32_w]
        rfl
      refine pure_ (i := 2) (N := some 7) (v := ?_) (a' := ?_) #[true, true, true, false] rfl rfl (any_of HT_.out (by kernel_rfl)) (fun _ _ _ h => h) (Or.inl ⟨by rfl, ?_⟩) ?_ ?_
      rotate_left
      · intro w'
        go_simp
        with_reducible rfl
      rotate_left
      · simp only [Act.put, List.setIfInBounds_toArray, List.set_cons_zero, List.set_cons_succ, i64_w, i32_w]
        rfl
      refine norm_ ?_ (hCont ((w0.alloc (.cells (dkB (dkV 0)) 5)).heap.size, w0.heap.size) _ ⟨blk_new (w0.alloc (.cells (dkB (dkV 0)) 5)) _, blk_alloc (blk_new w0 (.cells (dkB (dkV 0)) 5)) _, below_alloc (below_alloc HB.out _) _, ?_, ?_, ?_⟩)
      · first | rfl | (rw [alloc_size]; rfl)
      · have := below_size HB.out; simp only [alloc_size]; omega
      · have := below_size HB.out; simp only [alloc_size]; omega
      · simp only [alloc_size]; omega

  rintro ⟨cx, cy⟩ w2 ⟨hx, hy, hb, hxw, hyw, hxy⟩
  refine norm_ (a' := ?_) ?_ ?_
  rotate_left
  · simp only [putAll, Act.put, List.setIfInBounds_toArray, List.set_cons_zero, List.set_cons_succ]
    rfl
  refine pure_ (i := 3) (N := some 8) (v := ?_) (a' := ?_) #[true, true, true, true] rfl rfl (any_of HT_.out (by kernel_rfl)) (fun _ _ _ h => h) (Or.inl ⟨by rfl, ?_⟩) ?_ ?_
  rotate_left
  · intro w'
    go_simp
    with_reducible rfl
  rotate_left
  · simp only [Act.put, List.setIfInBounds_toArray, List.set_cons_zero, List.set_cons_succ, i64_w, i32_w]
    rfl
  refine done_ (done_of HT_.out (by kernel_rfl)) ?_
  clear HT_ HW_ hHeld HB hmk
  have HX := Aside0.mk hx
  have HY := Aside0.mk hy
  have HB := Aside0.mk hb
  have NX := Aside0.mk (show w.heap.size ≤ cx ∧ w.heap.size ≤ cy ∧ cx ≠ cy from ⟨hxw, hyw, hxy⟩)
  clear hx hy hb hxw hyw hxy
  obtain ⟨xX, hx_⟩ : ∃ x_, x_ = l0.take 64 ++ (dkV 0).drop l0.length := ⟨_, rfl⟩
  have LX : Aside0 (xX.length = 64) := ⟨by rw [hx_, List.length_append, List.length_take, List.length_drop, show (dkV 0).length = 64 from rfl]; omega⟩
  have hcp := dk_copy_min (cur := dkV 0) (dCap := 64) (sCap := c0) HX.out (Kd.C_below HA0.out.1 HB.out)
  rw [show (dkV 0).length = 64 from rfl, ← hx_] at hcp
  clear hx_
  go_upto_region 5 with (fail)
  have n_HX : Aside0 ((w2.setRow cx (dkB xX)).heap[cx]? = some (.cells (dkB xX) 5 (0, 0))) := ⟨setRow_heap _ _ _ _ 5 (0, 0) HX.out⟩
  have n_HY : Aside0 ((w2.setRow cx (dkB xX)).heap[cy]? = some (.cells (dkB (dkV 0)) 5 (0, 0))) := ⟨(setRow_other _ _ _ _ (fun e => NX.out.2.2 (e.symm))).trans HY.out⟩
  have n_HB : Aside0 (Below w.heap.size w (w2.setRow cx (dkB xX))) := ⟨below_setRow HB.out NX.out.1 _⟩
  clear HX HY HB hcp
  have HX := n_HX
  have HY := n_HY
  have HB := n_HB
  clear n_HX n_HY n_HB
  generalize w2.setRow cx (dkB xX) = w3 at HX HY HB ⊢
  obtain ⟨xY, hx_⟩ : ∃ x_, x_ = l1.take 64 ++ (dkV 0).drop l1.length := ⟨_, rfl⟩
  have LY : Aside0 (xY.length = 64) := ⟨by rw [hx_, List.length_append, List.length_take, List.length_drop, show (dkV 0).length = 64 from rfl]; omega⟩
  have hcp := dk_copy_min (cur := dkV 0) (dCap := 64) (sCap := c1) HY.out (Kd.C_below HA1.out.1 HB.out)
  rw [show (dkV 0).length = 64 from rfl, ← hx_] at hcp
  clear hx_
  go_upto_region 6 with (fail)
  have n_HY : Aside0 ((w3.setRow cy (dkB xY)).heap[cy]? = some (.cells (dkB xY) 5 (0, 0))) := ⟨setRow_heap _ _ _ _ 5 (0, 0) HY.out⟩
  have n_HX : Aside0 ((w3.setRow cy (dkB xY)).heap[cx]? = some (.cells (dkB xX) 5 (0, 0))) := ⟨(setRow_other _ _ _ _ (fun e => NX.out.2.2 (e))).trans HX.out⟩
  have n_HB : Aside0 (Below w.heap.size w (w3.setRow cy (dkB xY))) := ⟨below_setRow HB.out NX.out.2.1 _⟩
  clear HY HX HB hcp
  have HY := n_HY
  have HX := n_HX
  have HB := n_HB
  clear n_HY n_HX n_HB
  generalize w3.setRow cy (dkB xY) = w4 at HY HX HB ⊢
  go_wp2_with fail
  refine (disk_New.calls 3 64 w4).mono ?_
  rintro e w5 ⟨g, q, hs, rfl, hd, hn, hb⟩
  rw [show dkS 64 = 64 from rfl, show dkN 3 = 3 from rfl] at hd
  rw [show dkN 3 = 3 from rfl] at hn
  (try dsimp only)
  obtain ⟨b1, hb1⟩ : ∃ b1, b1 = w4.heap.size := ⟨_, rfl⟩
  rw [← hb1] at hd
  have HD := Aside0.mk hd
  have HN := Aside0.mk hn
  have NS := Aside0.mk (show cx < b1 ∧ cy < b1 ∧ w.heap.size ≤ b1 from ⟨by have := blk_lt HX.out; omega, by have := blk_lt HY.out; omega, by have := below_size HB.out; omega⟩)
  have n_HX := Aside0.mk (blk_below HX.out hb)
  have n_HY := Aside0.mk (blk_below HY.out hb)
  have n_HB := Aside0.mk (below_step HB.out hb)
  clear HX HY HB hb hd hn hb1
  have HX := n_HX
  have HY := n_HY
  have HB := n_HB
  clear n_HX n_HY n_HB
  go_wp2_with fail
  have hw_ := disk_Write.ok HD.out 1 (by rw [HN.out]; decide) rfl ⟨cx, 0, none⟩ xX 64 (by rw [LX.out]; decide) (fun j x hx => by rw [add_at]; exact (blk_cell HX.out j).trans (dkB_get hx)) LX.out (by decide) (by decide) (fun e => HD.out.off NS.out.1 (Or.inl e))
  rw [LX.out] at hw_
  refine hw_.mono ?_
  clear hw_
  rintro e w6 ⟨rfl, hd, hf⟩
  rw [if_neg (by decide)] at hd
  (try dsimp only)
  have n_HX := Aside0.mk ((hf.block cx (blk_lt HX.out) (HD.out.off NS.out.1)).trans HX.out)
  have n_HY := Aside0.mk ((hf.block cy (blk_lt HY.out) (HD.out.off NS.out.2.1)).trans HY.out)
  have n_HB := Aside0.mk (hf.below HB.out (below_size HB.out) (HD.out.above NS.out.2.2))
  have n_HD := Aside0.mk (hd)
  clear HX HY HB HD hd hf
  have HX := n_HX
  have HY := n_HY
  have HB := n_HB
  have HD := n_HD
  clear n_HX n_HY n_HB n_HD
  go_wp2_with fail
  refine (lychhelp_Place.calls a2 2 pr _ HPR.out).mono ?_
  rintro e w7 ⟨rfl, ⟨nd, rfl⟩⟩
  (try dsimp only)
  go_wp2_with fail
  refine (disk_Cut.calls (HD.out.drewN nd) (by rw [HN.out]; decide) pr 0).mono ?_
  rintro e w7 ⟨rfl, hd, hf⟩
  have hf : DF (fun k => k = g) w6 w7 := ⟨hf.os, hf.tape, hf.output, hf.size, hf.block⟩
  rw [show mx pr 0 = pr by have := HPC.out; unfold mx; split <;> omega, show mn (mx 0 0) ((64 : Nat) : Int) = ((0 : Nat) : Int) from rfl] at hd
  (try dsimp only)
  have n_HX := Aside0.mk ((hf.block cx (blk_lt HX.out) (fun e => HD.out.off NS.out.1 (Or.inl e))).trans HX.out)
  have n_HY := Aside0.mk ((hf.block cy (blk_lt HY.out) (fun e => HD.out.off NS.out.2.1 (Or.inl e))).trans HY.out)
  have n_HB := Aside0.mk (hf.below HB.out (below_size HB.out) (fun i e => HD.out.above NS.out.2.2 i (Or.inl e)))
  have n_HD := Aside0.mk (hd)
  clear HX HY HB HD hd hf
  have HX := n_HX
  have HY := n_HY
  have HB := n_HB
  have HD := n_HD
  clear n_HX n_HY n_HB n_HD
  go_wp2_with fail
  refine (disk_Copy.calls HD.out (by decide) (by rw [HN.out]; decide)).mono ?_
  rintro e w8 ⟨g2, q2, hs2, rfl, hd2, hn2, hb⟩
  rw [HN.out] at hn2
  (try dsimp only)
  obtain ⟨b2, hb2⟩ : ∃ b2, b2 = w7.heap.size := ⟨_, rfl⟩
  have NG := Aside0.mk (show g < b2 ∧ q < b2 ∧ ∀ y ∈ hs, y < b2 by rw [hb2]; exact HD.out.lt)
  have NT := Aside0.mk (show cx < b2 ∧ cy < b2 ∧ w.heap.size ≤ b2 from ⟨by have := blk_lt HX.out; omega, by have := blk_lt HY.out; omega, by have := below_size HB.out; omega⟩)
  rw [← hb2] at hd2
  have HC := Aside0.mk hd2
  have HN2 := Aside0.mk hn2
  have n_HX := Aside0.mk (blk_below HX.out hb)
  have n_HY := Aside0.mk (blk_below HY.out hb)
  have n_HB := Aside0.mk (below_step HB.out hb)
  have n_HD := Aside0.mk (HD.out.below hb)
  clear HX HY HB HD hb hd2 hn2 hb2
  have HX := n_HX
  have HY := n_HY
  have HB := n_HB
  have HD := n_HD
  clear n_HX n_HY n_HB n_HD
  have hpc := HPC.out
  rcases hpc with rfl | rfl
  · skip
    go_wp2_with fail
    have hw_ := disk_Write.fell HD.out 1 0 _ (by rw [HN.out]; decide) rfl rfl ⟨cy, 0, none⟩ xY 64 (by rw [LY.out]; decide) (fun j x hx => by rw [add_at]; exact (blk_cell HY.out j).trans (dkB_get hx)) LY.out rfl rfl (by decide) (fun e => HD.out.off NS.out.2.1 (Or.inl e))
    rw [LY.out] at hw_
    refine hw_.mono ?_
    clear hw_
    rintro e w9 ⟨rfl, hd, hf⟩
    (try dsimp only)
    have n_HX := Aside0.mk ((hf.block cx (blk_lt HX.out) (HD.out.off NS.out.1)).trans HX.out)
    have n_HY := Aside0.mk ((hf.block cy (blk_lt HY.out) (HD.out.off NS.out.2.1)).trans HY.out)
    have n_HB := Aside0.mk (hf.below HB.out (below_size HB.out) (HD.out.above NS.out.2.2))
    have n_HC := Aside0.mk (HC.out.kept hf (DK.under NG.out HC.out.own.1) (DK.under NG.out HC.out.own.2.1) (fun y hy => DK.under NG.out (HC.out.own.2.2 y hy)))
    have n_HD := Aside0.mk (hd)
    clear HX HY HB HC HD hd hf
    have HX := n_HX
    have HY := n_HY
    have HB := n_HB
    have HC := n_HC
    have HD := n_HD
    clear n_HX n_HY n_HB n_HC n_HD
    go_wp2_with fail
    have hw_ := disk_Write.fell HC.out 2 0 _ (by rw [HN2.out]; decide) rfl rfl ⟨cy, 0, none⟩ xY 64 (by rw [LY.out]; decide) (fun j x hx => by rw [add_at]; exact (blk_cell HY.out j).trans (dkB_get hx)) LY.out rfl rfl (by decide) (fun e => HC.out.off NT.out.2.1 (Or.inl e))
    rw [LY.out] at hw_
    refine hw_.mono ?_
    clear hw_
    rintro e w10 ⟨rfl, hd, hf⟩
    (try dsimp only)
    have n_HX := Aside0.mk ((hf.block cx (blk_lt HX.out) (HC.out.off NT.out.1)).trans HX.out)
    have n_HY := Aside0.mk ((hf.block cy (blk_lt HY.out) (HC.out.off NT.out.2.1)).trans HY.out)
    have n_HB := Aside0.mk (hf.below HB.out (below_size HB.out) (HC.out.above NT.out.2.2))
    have n_HD := Aside0.mk (HD.out.kept hf (HC.out.off NG.out.1) (HC.out.off NG.out.2.1) (fun y hy => HC.out.off (NG.out.2.2 y hy)))
    have n_HC := Aside0.mk (hd)
    clear HX HY HB HD HC hd hf
    have HX := n_HX
    have HY := n_HY
    have HB := n_HB
    have HD := n_HD
    have HC := n_HC
    clear n_HX n_HY n_HB n_HD n_HC
    go_wp2_with fail
    refine (disk_Read.refused (HC.out) 1 (by rw [show dkAt hs2.length true 1 = 42 from rfl]; decide)).mono ?_
    rintro e w11 ⟨rfl, ⟨nd1, rfl⟩⟩
    rw [show dkAt hs2.length true 1 = 42 from rfl]
    (try dsimp only)
    go_wp2_with fail
    refine (disk_Read.refused (HD.out.drewN _) 2 (by rw [show dkAt hs.length true 2 = 42 from rfl]; decide)).mono ?_
    rintro e w11 ⟨rfl, ⟨nd2, rfl⟩⟩
    rw [show dkAt hs.length true 2 = 42 from rfl]
    (try dsimp only)
    go_wp2_with fail
    refine (lychhelp_Place.calls a2 2 0 _ HPR.out).mono ?_
    rintro e w11 ⟨rfl, ⟨ndp, rfl⟩⟩
    (try dsimp only)
    go_wp2_with fail
    refine (disk_Dead.calls (HD.out.drewN _)).mono ?_
    rintro e w11 ⟨rfl, ⟨nda, rfl⟩⟩
    (try dsimp only)
    go_wp2_with fail
    refine (disk_Dead.calls (HC.out.drewN _)).mono ?_
    rintro e w11 ⟨rfl, ⟨ndb, rfl⟩⟩
    (try dsimp only)
    go_wp2
    (try simp only [Exit.inBlock, Exit.then])
    go_ret
    exact ⟨rfl, pw_below_drewN HB.out _⟩

  · skip
    go_wp2_with fail
    have hw_ := disk_Write.ok HD.out 1 (by rw [HN.out]; decide) rfl ⟨cy, 0, none⟩ xY 64 (by rw [LY.out]; decide) (fun j x hx => by rw [add_at]; exact (blk_cell HY.out j).trans (dkB_get hx)) LY.out (by decide) (by decide) (fun e => HD.out.off NS.out.2.1 (Or.inl e))
    rw [LY.out] at hw_
    refine hw_.mono ?_
    clear hw_
    rintro e w9 ⟨rfl, hd, hf⟩
    rw [if_pos (by decide)] at hd
    (try dsimp only)
    have n_HX := Aside0.mk ((hf.block cx (blk_lt HX.out) (HD.out.off NS.out.1)).trans HX.out)
    have n_HY := Aside0.mk ((hf.block cy (blk_lt HY.out) (HD.out.off NS.out.2.1)).trans HY.out)
    have n_HB := Aside0.mk (hf.below HB.out (below_size HB.out) (HD.out.above NS.out.2.2))
    have n_HC := Aside0.mk (HC.out.kept hf (DK.under NG.out HC.out.own.1) (DK.under NG.out HC.out.own.2.1) (fun y hy => DK.under NG.out (HC.out.own.2.2 y hy)))
    have n_HD := Aside0.mk (hd)
    clear HX HY HB HC HD hd hf
    have HX := n_HX
    have HY := n_HY
    have HB := n_HB
    have HC := n_HC
    have HD := n_HD
    clear n_HX n_HY n_HB n_HC n_HD
    go_wp2_with fail
    have hw_ := disk_Write.ok HC.out 2 (by rw [HN2.out]; decide) rfl ⟨cy, 0, none⟩ xY 64 (by rw [LY.out]; decide) (fun j x hx => by rw [add_at]; exact (blk_cell HY.out j).trans (dkB_get hx)) LY.out (by decide) (by decide) (fun e => HC.out.off NT.out.2.1 (Or.inl e))
    rw [LY.out] at hw_
    refine hw_.mono ?_
    clear hw_
    rintro e w10 ⟨rfl, hd, hf⟩
    rw [if_pos (by decide)] at hd
    (try dsimp only)
    have n_HX := Aside0.mk ((hf.block cx (blk_lt HX.out) (HC.out.off NT.out.1)).trans HX.out)
    have n_HY := Aside0.mk ((hf.block cy (blk_lt HY.out) (HC.out.off NT.out.2.1)).trans HY.out)
    have n_HB := Aside0.mk (hf.below HB.out (below_size HB.out) (HC.out.above NT.out.2.2))
    have n_HD := Aside0.mk (HD.out.kept hf (HC.out.off NG.out.1) (HC.out.off NG.out.2.1) (fun y hy => HC.out.off (NG.out.2.2 y hy)))
    have n_HC := Aside0.mk (hd)
    clear HX HY HB HD HC hd hf
    have HX := n_HX
    have HY := n_HY
    have HB := n_HB
    have HD := n_HD
    have HC := n_HC
    clear n_HX n_HY n_HB n_HD n_HC
    go_wp2_with fail
    refine (disk_Read.ok HC.out (by decide) 1 xX (by rw [HN2.out]; decide) rfl rfl).mono ?_
    rintro e w11 ⟨bp, rfl, hp_, hpl_, hb⟩
    (try dsimp only)
    have n_HX := Aside0.mk (blk_below HX.out hb)
    have n_HY := Aside0.mk (blk_below HY.out hb)
    have n_HD := Aside0.mk (HD.out.below hb)
    have n_HC := Aside0.mk (HC.out.below hb)
    have n_HB := Aside0.mk (below_step HB.out hb)
    clear HX HY HD HC HB hpl_
    have HX := n_HX
    have HY := n_HY
    have HD := n_HD
    have HC := n_HC
    have HB := n_HB
    clear n_HX n_HY n_HD n_HC n_HB
    have HP := Aside0.mk hp_
    clear hp_ hb
    go_wp2_with fail
    refine (disk_Read.ok HD.out (by decide) 2 (dkV 0) (by rw [HN.out]; decide) rfl rfl).mono ?_
    rintro e w12 ⟨bq, rfl, hp_, hpl_, hb⟩
    (try dsimp only)
    have n_HX := Aside0.mk (blk_below HX.out hb)
    have n_HY := Aside0.mk (blk_below HY.out hb)
    have n_HD := Aside0.mk (HD.out.below hb)
    have n_HC := Aside0.mk (HC.out.below hb)
    have n_HB := Aside0.mk (below_step HB.out hb)
    have n_HP := Aside0.mk (blk_below HP.out hb)
    clear HX HY HD HC HB HP hpl_
    have HX := n_HX
    have HY := n_HY
    have HD := n_HD
    have HC := n_HC
    have HB := n_HB
    have HP := n_HP
    clear n_HX n_HY n_HD n_HC n_HB n_HP
    have HQ := Aside0.mk hp_
    clear hp_ hb
    go_wp2_with fail
    refine (lychhelp_Place.calls a2 2 1 _ HPR.out).mono ?_
    rintro e w11 ⟨rfl, ⟨ndp, rfl⟩⟩
    (try dsimp only)
    go_wp2_with fail
    have hw_ := lychhelp_Bytes.calls (some ⟨bp, 0, none⟩) 64 xX (some ⟨cx, 0, none⟩) 64 xX true _ (kd_of_row (blk_drewN HP.out ndp) (by rw [LX.out]; decide)) (by rw [LX.out]; decide) (kd_of_row (blk_drewN HX.out ndp) (by rw [LX.out]; decide)) (by rw [LX.out]; decide) (by unfold lychhelp_Bytes.f; rw [beq_self_eq_true])
    rw [LX.out] at hw_
    refine hw_.mono ?_
    clear hw_
    rintro e w13 ⟨rfl, ⟨ndc, rfl⟩⟩
    (try dsimp only)
    have hmk := dk_make 64 (by omega) (by omega)
    rw [show List.replicate (64 : Int).toNat (0 : Int) = dkV 0 from rfl, show (64 : Int).toNat = 64 from rfl] at hmk
    go_wp2_with fail
    have hal_ : ((w12.drewN (ndp + ndc)).alloc (.cells (dkB (dkV 0)) 5)).heap[w12.heap.size]? = some (.cells (dkB (dkV 0)) 5 (0, 0)) := blk_new (w12.drewN (ndp + ndc)) _
    have hw_ := lychhelp_Bytes.calls (some ⟨bq, 0, none⟩) 64 (dkV 0) (some ⟨w12.heap.size, 0, none⟩) 64 (dkV 0) true _ (kd_of_row (blk_alloc (blk_drewN HQ.out (ndp + ndc)) _) (by rw [show (dkV 0).length = 64 from rfl]; decide)) (by rw [show (dkV 0).length = 64 from rfl]; decide) (kd_of_row hal_ (by rw [show (dkV 0).length = 64 from rfl]; decide)) (by rw [show (dkV 0).length = 64 from rfl]; decide) (by unfold lychhelp_Bytes.f; rw [beq_self_eq_true])
    rw [show (dkV 0).length = 64 from rfl] at hw_
    refine hw_.mono ?_
    clear hw_
    rintro e w13 ⟨rfl, ⟨ndd, rfl⟩⟩
    (try dsimp only)
    go_wp2
    (try simp only [Exit.inBlock, Exit.then])
    go_ret
    exact ⟨rfl, by repeat (first | exact HB.out | apply pw_below_drewN | apply below_alloc)⟩

end Go.Proofs.Ytgeggcifhojpmaa.PA
