import Derived.Test.YtgeggcifhojpmaaDiskRW
import Derived.Laws.CopyRow
import Derived.Laws.MakeOwn
import Derived.Laws.CopyOwn
namespace Go.Proofs.Ytgeggcifhojpmaa.PA
open Go.RowKit Go.Proofs.YtgeggcifhojpmaaW.PrintWords Go.Proofs.YtgeggcifhojpmaaW.PrintLast Go.Proofs.YtgeggcifhojpmaaW.PrintMore
attribute [local go_sem] max2_int min2_int max_two min_two max_three min_three max_four min_four   -- for this text's walks alone
set_option linter.unusedVariables false
set_option linter.unusedSimpArgs false

def disk_Copy.T6 : Bool × List (List Nat × List Nat) := (true, [([], []), ([0], [0]), ([], []), ([], []), ([3], [3]), ([4, 4], [4]), ([1, 2, 0, 1, 2, 3, 4, 5], [1, 2]), ([6, 5, 0, 1, 2, 3, 4, 5], [5, 6])])
def disk_Copy.B6 : List Nat := [0, 1, 0, 0, 8, 24, 63, 127]
theorem disk_Copy.tab6 : rtab .any (opsOf Try.f13 6) = disk_Copy.T6 := by kernel_rfl
theorem disk_Copy.bits6 : waitsOk disk_Copy.T6.2 disk_Copy.B6 = true := by kernel_rfl
theorem blk_fresh {a G n : Nat} (e : a = G) (hG : G = n) (h : a < n) : False := by omega
/-- The blocks of a copy, as far as they are made. -/
def DC (W : World) (base s : Nat) (hs : List Nat) (bs : List (List Int)) : Prop := hs.Nodup ∧ ∀ (i b : Nat) (l : List Int), hs[i]? = some b → bs[i]? = some l → base ≤ b ∧ l.length = s ∧ W.heap[b]? = some (.cells (dkB l) 5 (0, 0))
theorem DC.nil (W : World) (base s : Nat) (bs : List (List Int)) : DC W base s [] bs := ⟨List.nodup_nil, fun i b l h => by simp at h⟩
theorem DC.kept {S : Nat → Prop} {W W' : World} {base s : Nat} {hs : List Nat} {bs : List (List Int)} (h : DC W base s hs bs) (hf : DF S W W') (hS : ∀ b ∈ hs, ¬ S b) : DC W' base s hs bs := ⟨h.1, fun i b l hi hl => ⟨(h.2 i b l hi hl).1, (h.2 i b l hi hl).2.1, (hf.block b (blk_lt (h.2 i b l hi hl).2.2) (hS b (List.mem_of_getElem? hi))).trans (h.2 i b l hi hl).2.2⟩⟩
theorem DC.lt {W : World} {base s : Nat} {hs : List Nat} {bs : List (List Int)} (h : DC W base s hs bs) (hn : hs.length ≤ bs.length) : ∀ b ∈ hs, b < W.heap.size := by
  intro b hb
  obtain ⟨i, hi, he⟩ := List.mem_iff_getElem.1 hb
  exact blk_lt (h.2 i b (bs[i]'(by omega)) (by rw [List.getElem?_eq_getElem hi, he]) (List.getElem?_eq_getElem _)).2.2
theorem DC.add {W : World} {base s b : Nat} {hs : List Nat} {bs : List (List Int)} {l : List Int} (h : DC W base s hs bs) (hb : base ≤ b) (hl : bs[hs.length]? = some l) (hn : l.length = s) (hw : W.heap[b]? = some (.cells (dkB l) 5 (0, 0))) (hnew : b ∉ hs) : DC W base s (hs ++ [b]) bs := by
  refine ⟨?_, fun i x y hx hy => ?_⟩
  · rw [List.nodup_append]
    refine ⟨h.1, by simp, fun x hx y hy => ?_⟩
    obtain rfl : y = b := by simpa using hy
    exact fun e => hnew (e ▸ hx)
  · rcases Nat.lt_or_ge i hs.length with h1 | h1
    · rw [List.getElem?_append_left h1] at hx
      exact h.2 i x y hx hy
    · rw [List.getElem?_append_right h1] at hx
      have h2 : i = hs.length := by
        rcases Nat.lt_or_ge (i - hs.length) 1 with h3 | h3
        · omega
        · rw [List.getElem?_eq_none (by simpa using h3)] at hx; cases hx
      subst h2
      obtain rfl : b = x := by simpa using hx
      obtain rfl : l = y := Option.some.inj (hl.symm.trans hy)
      exact ⟨hb, hn, hw⟩
theorem dkF_at (s n : Nat) (hs : List Nat) (b : Nat) : (dkF s n (hs ++ [b]))[hs.length]? = some (.slice (some ⟨b, 0, none⟩) s s) := by simp [dkF]
set_option maxHeartbeats 4000000 in
set_option maxRecDepth 100000 in
theorem disk_Copy.calls {w : World} {base g q s : Nat} {hs : List Nat} {bs : List (List Int)} {cut pre : Int} {dead : Bool} (hd : DK w base g q s hs bs cut pre dead) (hz : s ≤ 65536) (hn : hs.length ≤ 1000000) : Calls Try.prog 13 #[.pointer (some ⟨g, 0, none⟩)] w fun e w' => ∃ g2 q2 hs2, e = .returned (.pointer (some ⟨g2, 0, none⟩)) ∧ DK w' w.heap.size g2 q2 s hs2 bs cut pre dead ∧ hs2.length = hs.length ∧ Below w.heap.size w w' := by
  have hu49 := Try.underlying49
  have HD := Aside0.mk hd
  clear hd
  have c0 : w.cell? ⟨g, 0, none⟩ = some (.slice (some ⟨q, 0, none⟩) hs.length hs.length) := (blk_cell HD.out.top 0).trans rfl
  have c1 : w.cell? ⟨g, 1, none⟩ = some (.int .i64 cut) := (blk_cell HD.out.top 1).trans rfl
  have c2 : w.cell? ⟨g, 2, none⟩ = some (.int .i64 pre) := (blk_cell HD.out.top 2).trans rfl
  have c3 : w.cell? ⟨g, 3, none⟩ = some (.bool dead) := (blk_cell HD.out.top 3).trans rfl
  have z0 := blk_frozen HD.out.top 0
  have z1 := blk_frozen HD.out.top 1
  have z2 := blk_frozen HD.out.top 2
  have z3 := blk_frozen HD.out.top 3
  have hmk0 := dk_makes (hs.length : Int) (by omega) (by omega)
  rw [Int.toNat_natCast] at hmk0
  have HZ := Aside0.mk (And.intro hz hn)
  clear hz hn
  have HD0 := HD
  go_enter Try.func13, Try.ntmps13
  go_upto_region 2 with (fail)
  obtain ⟨G, hG⟩ : ∃ G, G = w.heap.size := ⟨_, rfl⟩
  rw [← hG]
  have n0_ : Aside0 (DK (w.alloc (.cells #[.slice (some ⟨q, 0, none⟩) hs.length hs.length, .int .i64 cut, .int .i64 pre, .bool dead] 49)) base g q s hs bs cut pre dead) := ⟨HD.out.kept (S := fun _ => False) (DF.of_below (below_alloc (Below.refl _ _) _)) id id (fun _ _ => id)⟩
  have n1_ : Aside0 ((w.alloc (.cells #[.slice (some ⟨q, 0, none⟩) hs.length hs.length, .int .i64 cut, .int .i64 pre, .bool dead] 49)).heap[G]? = some (.cells #[.slice (some ⟨q, 0, none⟩) hs.length hs.length, .int .i64 cut, .int .i64 pre, .bool dead] 49 (0, 0))) := ⟨by rw [hG]; exact blk_new w _⟩
  have n2_ : Aside0 (Below w.heap.size w (w.alloc (.cells #[.slice (some ⟨q, 0, none⟩) hs.length hs.length, .int .i64 cut, .int .i64 pre, .bool dead] 49))) := ⟨below_alloc (Below.refl _ _) _⟩
  have HG := Aside0.mk hG
  generalize w.alloc (.cells #[.slice (some ⟨q, 0, none⟩) hs.length hs.length, .int .i64 cut, .int .i64 pre, .bool dead] 49) = W1 at n0_ n1_ n2_ ⊢
  clear HD c0 c1 c2 c3 z0 z1 z2 z3 hG
  have HD := n0_
  have HT := n1_
  have HB := n2_
  clear n0_ n1_ n2_
  have c0 : W1.cell? ⟨g, 0, none⟩ = some (.slice (some ⟨q, 0, none⟩) hs.length hs.length) := (blk_cell HD.out.top 0).trans rfl
  have g0 : W1.cell? ⟨G, 0, none⟩ = some (.slice (some ⟨q, 0, none⟩) hs.length hs.length) := (blk_cell HT.out 0).trans rfl
  have z0 := blk_frozen HT.out 0
  have g1 : (W1.alloc (.cells (Array.replicate hs.length (Value.slice none 0 0)) 27)).cell? ⟨G, 0, none⟩ = some (.slice (some ⟨q, 0, none⟩) hs.length hs.length) := (blk_cell (blk_alloc HT.out _) 0).trans rfl
  have z1 := blk_frozen (blk_alloc HT.out (.cells (Array.replicate hs.length (Value.slice none 0 0)) 27)) 0
  go_upto_region 3 with (fail)
  obtain ⟨Q, hQ⟩ : ∃ Q, Q = W1.heap.size := ⟨_, rfl⟩
  have hGQ : G ≠ Q := by have := blk_lt HT.out; omega
  rw [← hQ]
  have n0_ : Aside0 (DK ((W1.alloc (.cells (Array.replicate hs.length (Value.slice none 0 0)) 27)).setCell ⟨G, 0, none⟩ (.slice (some ⟨Q, 0, none⟩) hs.length hs.length)) base g q s hs bs cut pre dead) := ⟨(HD.out.kept (S := fun _ => False) (DF.of_below (below_alloc (Below.refl _ _) (.cells (Array.replicate hs.length (Value.slice none 0 0)) 27))) id id (fun _ _ => id)).kept (S := fun k => k = G) (DF.set (DF.refl (fun k => k = G) _) (p := ⟨G, 0, none⟩) rfl _) (fun e => blk_fresh e HG.out HD0.out.lt.1) (fun e => blk_fresh e HG.out HD0.out.lt.2.1) (fun b hm e => blk_fresh e HG.out (HD0.out.lt.2.2 b hm))⟩
  have n1_ : Aside0 (((W1.alloc (.cells (Array.replicate hs.length (Value.slice none 0 0)) 27)).setCell ⟨G, 0, none⟩ (.slice (some ⟨Q, 0, none⟩) hs.length hs.length)).heap[G]? = some (.cells #[.slice (some ⟨Q, 0, none⟩) hs.length hs.length, .int .i64 cut, .int .i64 pre, .bool dead] 49 (0, 0))) := ⟨blk_put (blk_alloc HT.out (.cells (Array.replicate hs.length (Value.slice none 0 0)) 27)) 0 _ rfl⟩
  have n3_ : Aside0 (((W1.alloc (.cells (Array.replicate hs.length (Value.slice none 0 0)) 27)).setCell ⟨G, 0, none⟩ (.slice (some ⟨Q, 0, none⟩) hs.length hs.length)).heap[Q]? = some (.cells (dkF s hs.length []) 27 (0, 0))) := ⟨blk_far (by rw [hQ, show dkF s hs.length [] = Array.replicate hs.length (Value.slice none 0 0) from by simp [dkF]]; exact blk_new W1 (.cells (Array.replicate hs.length (Value.slice none 0 0)) 27)) (p := ⟨G, 0, none⟩) (fun e => hGQ e.symm) _⟩
  have n2_ : Aside0 (Below w.heap.size w ((W1.alloc (.cells (Array.replicate hs.length (Value.slice none 0 0)) 27)).setCell ⟨G, 0, none⟩ (.slice (some ⟨Q, 0, none⟩) hs.length hs.length))) := ⟨Below.setCell (p := ⟨G, 0, none⟩) (below_alloc HB.out _) (by have := HG.out; show w.heap.size ≤ G; omega) _⟩
  have GQ := Aside0.mk (show w.heap.size ≤ G ∧ w.heap.size ≤ Q ∧ G ≠ Q from ⟨by have := HG.out; omega, by rw [hQ]; exact below_size HB.out, hGQ⟩)
  generalize (W1.alloc (.cells (Array.replicate hs.length (Value.slice none 0 0)) 27)).setCell ⟨G, 0, none⟩ (.slice (some ⟨Q, 0, none⟩) hs.length hs.length) = W2 at n0_ n1_ n2_ n3_ ⊢
  clear HD HT HB HG hQ hGQ c0 g0 g1 z0 z1 hmk0
  have HD := n0_
  have HT := n1_
  have HB := n2_
  have HR := n3_
  clear n0_ n1_ n2_ n3_
  have c0 : W2.cell? ⟨g, 0, none⟩ = some (.slice (some ⟨q, 0, none⟩) hs.length hs.length) := (blk_cell HD.out.top 0).trans rfl
  go_wp2_with fail
  clear c0
  go_loopg [21] hs.length (fun kq v21 w' => ∃ (hs2 : List Nat), v21 = .int .i64 (hs2.length : Int) ∧ Aside0 (kq + hs2.length = hs.length) ∧ Aside0 (DK w' base g q s hs bs cut pre dead) ∧ Aside0 (w'.heap[G]? = some (.cells #[.slice (some ⟨Q, 0, none⟩) hs.length hs.length, .int .i64 cut, .int .i64 pre, .bool dead] 49 (0, 0))) ∧ Aside0 (w'.heap[Q]? = some (.cells (dkF s hs.length hs2) 27 (0, 0))) ∧ Aside0 (DC w' w.heap.size s hs2 bs) ∧ Aside0 (Below w.heap.size w w'))
  case atStart => exact ⟨[], rfl, ⟨rfl⟩, ⟨HD.out⟩, ⟨HT.out⟩, ⟨HR.out⟩, ⟨DC.nil _ _ _ _⟩, ⟨HB.out⟩⟩
  case round =>
    clear HD HT HR HB
    obtain ⟨hs2, rfl, Hk, HD, HT, HR, HE, HB⟩ := hrel
    by_cases c6 : hs2.length < hs.length
    · have c6b : decide ((hs2.length : Int) < (hs.length : Int)) = true := decide_eq_true (by omega)
      have c6c : decide (hs2.length < hs.length) = true := decide_eq_true c6
      have q1 : ((hs2.length : Int) < (hs.length : Int)) = True := eq_true (by omega)
      have q2 : (hs2.length < hs.length) = True := eq_true c6
      have H6 := Aside0.mk c6
      obtain ⟨b, l, r0, r1, r2, r3⟩ := HD.out.at c6
      have R0 := Aside0.mk r0
      have R1 := Aside0.mk r1
      have R2 := Aside0.mk r2
      clear c6 r0 r1 r2 r3
      have r0 : wr.cell? ⟨q, hs2.length, none⟩ = some (.slice (some ⟨b, 0, none⟩) s s) := (blk_cell HD.out.row hs2.length).trans (dkR_get R0.out)
      go_upto_region 6 with (fail)
      clear r0
      have hmk1 := dk_make (s : Int) (by omega) (by have := HZ.out.1; omega)
      rw [Int.toNat_natCast] at hmk1
      refine start_ (n := 8) (S := fun w' => w'.cell? ⟨G, 0, none⟩ = some (.slice (some ⟨Q, 0, none⟩) hs.length hs.length)) (ds := []) #[false, false, false, false, false, false, false, false] (by kernel_rfl) rfl rfl ((blk_cell HT.out 0).trans rfl) (fun hHeld => ?_)
      refine with_tabW disk_Copy.tab6 disk_Copy.bits6 (fun HT_ HW_ => ?_)
      have n0_ : Aside0 (DK wr.drew base g q s hs bs cut pre dead) := ⟨HD.out.kept (S := fun _ => False) ⟨rfl, rfl, rfl, Nat.le_refl _, fun _ _ _ => rfl⟩ id id (fun _ _ => id)⟩
      have n1_ := Aside0.mk (blk_drew HT.out)
      have n2_ := Aside0.mk (blk_drew HR.out)
      have n3_ : Aside0 (DC wr.drew w.heap.size s hs2 bs) := ⟨HE.out.kept (S := fun _ => False) ⟨rfl, rfl, rfl, Nat.le_refl _, fun _ _ _ => rfl⟩ (fun _ _ => id)⟩
      have n4_ := Aside0.mk (below_drew1 HB.out)
      clear HD HT HR HE HB
      have HD := n0_
      have HT := n1_
      have HR := n2_
      have HE := n3_
      have HB := n4_
      clear n0_ n1_ n2_ n3_ n4_
      generalize wr.drew = w4 at HD HT HR HE HB hHeld ⊢
      refine pure_ (i := 0) (N := some 26) (v := ?_) (a' := ?_) #[true, false, false, false, false, false, false, false] rfl rfl (any_of HT_.out (by kernel_rfl)) (fun _ _ _ h => h) (Or.inl ⟨by rfl, ?_⟩) ?_ ?_
      rotate_left
      · intro w'
        go_simp
        with_reducible rfl
      rotate_left
      · simp only [Act.put, List.setIfInBounds_toArray, List.set_cons_zero, List.set_cons_succ, i64_w, i32_w]
        rfl
      refine take_ (i := 1) (N := some 27) (v := ?_) (a' := ?_) #[true, true, false, false, false, false, false, false] rfl rfl (take_ofW HT_.out HW_.out (by kernel_rfl)) (fun _ _ _ h => h) (Or.inl ⟨by rfl, ?_⟩) hHeld ?_ ?_
      rotate_left
      · intro w' s0
        go_simp
        with_reducible rfl
      rotate_left
      · simp only [Act.put, List.setIfInBounds_toArray, List.set_cons_zero, List.set_cons_succ, i64_w, i32_w]
        rfl
      refine pure_ (i := 2) (N := some 28) (v := ?_) (a' := ?_) #[true, true, true, false, false, false, false, false] rfl rfl (any_of HT_.out (by kernel_rfl)) (fun _ _ _ h => h) (Or.inl ⟨by rfl, ?_⟩) ?_ ?_
      rotate_left
      · intro w'
        go_simp
        with_reducible rfl
      rotate_left
      · simp only [Act.put, List.setIfInBounds_toArray, List.set_cons_zero, List.set_cons_succ, i64_w, i32_w]
        rfl
      refine pure_ (i := 3) (N := some 29) (v := ?_) (a' := ?_) #[true, true, true, true, false, false, false, false] rfl rfl (any_of HT_.out (by kernel_rfl)) (fun _ _ _ h => h) (Or.inl ⟨by rfl, ?_⟩) ?_ ?_
      rotate_left
      · intro w'
        go_simp
        with_reducible rfl
      rotate_left
      · simp only [Act.put, List.setIfInBounds_toArray, List.set_cons_zero, List.set_cons_succ, i64_w, i32_w]
        rfl
      refine pure_ (i := 4) (N := some 30) (v := ?_) (a' := ?_) #[true, true, true, true, true, false, false, false] rfl rfl (any_of HT_.out (by kernel_rfl)) (fun _ _ _ h => h) (Or.inl ⟨by rfl, ?_⟩) ?_ ?_
      rotate_left
      · intro w'
        go_simp
        with_reducible rfl
      rotate_left
      · simp only [Act.put, List.setIfInBounds_toArray, List.set_cons_zero, List.set_cons_succ, i64_w, i32_w]
        rfl
      refine one_ (i := 5) (N := some 31) #[true, true, true, true, true, true, false, false] rfl rfl (one_of HT_.out (by kernel_rfl)) (by decide) (fun K hK => ?_)

      refine value_ (v := .slice (some ⟨w4.heap.size, 0, none⟩) s s) (w1 := w4.alloc (.cells (dkB (List.replicate s 0)) 5)) (by rfl) rfl ?_ ?_
      · have hm_ := hmk1 w4
        go_simp
      obtain ⟨B, hB⟩ : ∃ B, B = w4.heap.size := ⟨_, rfl⟩
      rw [← hB]
      have NB : Aside0 (B ∉ hs2 ∧ w.heap.size ≤ B ∧ B ≠ G ∧ B ≠ Q ∧ B ≠ g ∧ B ≠ q ∧ B ∉ hs) := ⟨fun hm => by have := HE.out.lt (by have := H6.out; have := HD.out.len; omega) B hm; omega, by rw [hB]; exact below_size HB.out, by have := blk_lt HT.out; omega, by have := blk_lt HR.out; omega, by have := HD.out.lt.1; omega, by have := HD.out.lt.2.1; omega, fun hm => by have := HD.out.lt.2.2 B hm; omega⟩
      have hbel_ := below_alloc (Below.refl w4.heap.size w4) (.cells (dkB (List.replicate s 0)) 5)
      have n0_ : Aside0 (DK (w4.alloc (.cells (dkB (List.replicate s 0)) 5)) base g q s hs bs cut pre dead) := ⟨HD.out.kept (S := fun _ => False) (DF.of_below hbel_) id id (fun _ _ => id)⟩
      have n1_ := Aside0.mk (blk_alloc HT.out (.cells (dkB (List.replicate s 0)) 5))
      have n2_ := Aside0.mk (blk_alloc HR.out (.cells (dkB (List.replicate s 0)) 5))
      have n3_ : Aside0 (DC (w4.alloc (.cells (dkB (List.replicate s 0)) 5)) w.heap.size s hs2 bs) := ⟨HE.out.kept (S := fun _ => False) (DF.of_below hbel_) (fun _ _ => id)⟩
      have n4_ := Aside0.mk (below_alloc HB.out (.cells (dkB (List.replicate s 0)) 5))
      have n5_ : Aside0 ((w4.alloc (.cells (dkB (List.replicate s 0)) 5)).heap[B]? = some (.cells (dkB (List.replicate s 0)) 5 (0, 0))) := ⟨by rw [hB]; exact blk_new w4 _⟩
      clear HD HT HR HE HB hbel_ hB hmk1
      have HD := n0_
      have HT := n1_
      have HR := n2_
      have HE := n3_
      have HB := n4_
      have HN := n5_
      clear n0_ n1_ n2_ n3_ n4_ n5_
      generalize w4.alloc (.cells (dkB (List.replicate s 0)) 5) = w5 at HD HT HR HE HB HN ⊢
      refine hK.out _ _ ((blk_cell HT.out 0).trans rfl) (fun hHeld => ?_)
      clear hK K
      refine norm_ (a' := ?_) ?_ ?_
      rotate_left
      · show Act.put _ (some 31) _ = _
        simp only [Act.put, List.setIfInBounds_toArray, List.set_cons_zero, List.set_cons_succ, i64_w, i32_w]
        rfl
      refine pure_ (i := 6) (N := some 32) (v := ?_) (a' := ?_) #[true, true, true, true, true, true, true, false] rfl rfl (any_of HT_.out (by kernel_rfl)) (fun _ _ _ h => h) (Or.inl ⟨by rfl, ?_⟩) ?_ ?_
      rotate_left
      · intro w'
        go_simp
        with_reducible rfl
      rotate_left
      · simp only [Act.put, List.setIfInBounds_toArray, List.set_cons_zero, List.set_cons_succ, i64_w, i32_w]
        rfl
      refine one_ (i := 7) (N := none) #[true, true, true, true, true, true, true, true] rfl rfl (one_of HT_.out (by kernel_rfl)) (by decide) (fun K hK => ?_)

      have hs0 : w5.cell? ⟨Q, hs2.length, none⟩ = some (.slice none 0 0) := (blk_cell HR.out hs2.length).trans (dkF_old _ _ hs2 H6.out)
      have hfs0 := blk_frozen HR.out hs2.length
      refine skip_ (w1 := w5.setCell ⟨Q, hs2.length, none⟩ (.slice (some ⟨B, 0, none⟩) s s)) (by rfl) rfl ?_ ?_
      · go_simp
      have hdf_ : DF (fun k => k = Q) w5 (w5.setCell ⟨Q, hs2.length, none⟩ (.slice (some ⟨B, 0, none⟩) s s)) := DF.set (DF.refl (fun k => k = Q) w5) (p := ⟨Q, hs2.length, none⟩) rfl _
      have n0_ : Aside0 (DK (w5.setCell ⟨Q, hs2.length, none⟩ (.slice (some ⟨B, 0, none⟩) s s)) base g q s hs bs cut pre dead) := ⟨HD.out.kept hdf_ (fun e => by have := HD0.out.lt.1; have := GQ.out.2.1; omega) (fun e => by have := HD0.out.lt.2.1; have := GQ.out.2.1; omega) (fun x hm e => by have := HD0.out.lt.2.2 x hm; have := GQ.out.2.1; omega)⟩
      have n1_ := Aside0.mk (blk_far HT.out (p := ⟨Q, hs2.length, none⟩) GQ.out.2.2 (.slice (some ⟨B, 0, none⟩) s s))
      have n2_ := Aside0.mk (blk_put (cs' := dkF s hs.length (hs2 ++ [B])) HR.out hs2.length (.slice (some ⟨B, 0, none⟩) s s) (dkF_step _ _ hs2 B H6.out))
      have n3_ : Aside0 (DC (w5.setCell ⟨Q, hs2.length, none⟩ (.slice (some ⟨B, 0, none⟩) s s)) w.heap.size s hs2 bs) := ⟨HE.out.kept hdf_ (fun x hm e => by
        obtain ⟨i, hi, he⟩ := List.mem_iff_getElem.1 hm
        have h1 := (HE.out.2 i x (bs[i]'(by have := HD.out.len; have := H6.out; omega)) (by rw [List.getElem?_eq_getElem hi, he]) (List.getElem?_eq_getElem _)).2.2
        exact blk_ne h1 HR.out (by decide) e)⟩
      have n4_ := Aside0.mk (Below.setCell (p := ⟨Q, hs2.length, none⟩) HB.out GQ.out.2.1 (.slice (some ⟨B, 0, none⟩) s s))
      have n5_ := Aside0.mk (blk_far HN.out (p := ⟨Q, hs2.length, none⟩) NB.out.2.2.2.1 (.slice (some ⟨B, 0, none⟩) s s))
      clear HD HT HR HE HB HN hs0 hfs0 hdf_
      have HD := n0_
      have HT := n1_
      have HR := n2_
      have HE := n3_
      have HB := n4_
      have HN := n5_
      clear n0_ n1_ n2_ n3_ n4_ n5_
      generalize w5.setCell ⟨Q, hs2.length, none⟩ (.slice (some ⟨B, 0, none⟩) s s) = w6 at HD HT HR HE HB HN ⊢
      refine hK.out _ _ ((blk_cell HT.out 0).trans rfl) (fun hHeld => ?_)
      clear hK K
      refine done_ (done_of HT_.out (by kernel_rfl)) ?_
      clear HT_ HW_ hHeld
      have g0 : w6.cell? ⟨G, 0, none⟩ = some (.slice (some ⟨Q, 0, none⟩) hs.length hs.length) := (blk_cell HT.out 0).trans rfl
      have r0 : w6.cell? ⟨Q, hs2.length, none⟩ = some (.slice (some ⟨B, 0, none⟩) s s) := (blk_cell HR.out hs2.length).trans (dkF_at _ _ hs2 B)
      have rb : w6.heap[b]? = some (.cells (dkB l) 5 (0, 0)) := (HD.out.each hs2.length b l R0.out R1.out).2
      have hcp := dk_copy (bl := l) (ad := ⟨b, 0, none⟩) (dCap := s) (sCap := s) HN.out (by rw [R2.out, List.length_replicate]; exact Nat.le_refl _) (fun j x hx => by rw [add_at]; exact (blk_cell rb j).trans (dkB_get hx))
      rw [R2.out, List.length_replicate, show l ++ (List.replicate s (0:Int)).drop s = l by simp] at hcp
      clear rb
      have w7 : wrap64 ((hs2.length : Int) + 1) = ((hs2.length + 1 : Nat) : Int) := by unfold wrap64; have := H6.out; have := HZ.out.2; omega
      have w8 : (hs2 ++ [B]).length = hs2.length + 1 := by simp
      (try simp only [Exit.inBlock, Exit.then])
      go_wp2
      go_roundg (gk - 1)
      case measure => have := Hk.out; have := H6.out; omega
      case rel =>
        have hdf_ : DF (fun k => k = B) w6 (w6.setRow B (dkB l)) := DF.setRow (DF.refl (fun k => k = B) w6) rfl _
        exact ⟨hs2 ++ [B], by first | rfl | (simp [w7]; done) | (simp only [w7, w8]; rfl), ⟨by have := Hk.out; have := H6.out; rw [w8]; omega⟩, ⟨HD.out.kept hdf_ (fun e => NB.out.2.2.2.2.1 e.symm) (fun e => NB.out.2.2.2.2.2.1 e.symm) (fun x hm e => NB.out.2.2.2.2.2.2 (e ▸ hm))⟩, ⟨(setRow_other w6 B G _ (fun e => NB.out.2.2.1 e.symm)).trans HT.out⟩, ⟨(setRow_other w6 B Q _ (fun e => NB.out.2.2.2.1 e.symm)).trans HR.out⟩, ⟨(HE.out.kept hdf_ (fun x hm e => NB.out.1 (e ▸ hm))).add NB.out.2.1 R1.out R2.out (setRow_heap _ _ _ _ 5 (0, 0) HN.out) NB.out.1⟩, ⟨below_setRow HB.out NB.out.2.1 _⟩⟩
    · have c6b : decide ((hs2.length : Int) < (hs.length : Int)) = false := decide_eq_false (by omega)
      have c6c : decide (hs2.length < hs.length) = false := decide_eq_false c6
      have el : hs2.length = hs.length := by have := Hk.out; omega
      clear c6
      go_wp2
      (try simp only [Exit.inBlock, Exit.then])
      go_ret
      rw [dkF_end _ _ hs2 el] at HR
      refine ⟨G, Q, hs2, rfl, ⟨by rw [el]; exact HT.out, HR.out, by rw [el]; exact HD.out.len, HE.out.1, fun i x y hx hy => ⟨(HE.out.2 i x y hx hy).2.1, (HE.out.2 i x y hx hy).2.2⟩, GQ.out.1, GQ.out.2.1, fun x hx => ?_⟩, el, HB.out⟩
      obtain ⟨i, hi, he⟩ := List.mem_iff_getElem.1 hx
      exact (HE.out.2 i x (bs[i]'(by rw [HD.out.len, ← el]; exact hi)) (by rw [List.getElem?_eq_getElem hi, he]) (List.getElem?_eq_getElem _)).1
end Go.Proofs.Ytgeggcifhojpmaa.PA
