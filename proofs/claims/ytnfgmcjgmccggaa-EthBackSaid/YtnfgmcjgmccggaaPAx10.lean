-- written by a patched print
import Derived.Test.YtnfgmcjgmccggaaPAx0
import Derived.Test.YtnfgmcjgmccggaaPAx9
namespace Go.Proofs.Ytnfgmcjgmccggaa.PA
open Go.RowKit Go.Proofs.YtnfgmcjgmccggaaW.PrintWords Go.Proofs.YtnfgmcjgmccggaaW.PrintLast Go.Proofs.YtnfgmcjgmccggaaW.PrintMore
attribute [local go_sem] max2_int min2_int max_two min_two max_three min_three max_four min_four   -- for this text's walks alone
set_option linter.unusedVariables false
set_option linter.unusedSimpArgs false

/-! ### eth_Bytes: function 16 -/
theorem eth_Bytes.lies {W : World} {g o : Nat} {t : TypeId} {cs : Array Value} {x0 x1 x2 x3 x4 x5 : Int} (h : W.heap[g]? = some (.cells cs t (0, 0))) (h0 : cs[o]? = some (.int .u8 x0)) (h1 : cs[o + 1]? = some (.int .u8 x1)) (h2 : cs[o + 2]? = some (.int .u8 x2)) (h3 : cs[o + 3]? = some (.int .u8 x3)) (h4 : cs[o + 4]? = some (.int .u8 x4)) (h5 : cs[o + 5]? = some (.int .u8 x5)) :
    Kd.C (Kd.int .u8) W (some ⟨g, o, none⟩) 6 [x0, x1, x2, x3, x4, x5] := by
  refine Kd.C_of_reads (enc := Value.int .u8) (d := (0 : Int)) (h1 := fun _ => rfl) ⟨rfl, by omega, fun _ => ⟨_, rfl, fun j hj => ?_⟩⟩
  have e : ∀ j, (⟨g, o, none⟩ : Addr).add j = ⟨g, o + j, none⟩ := fun j => by unfold Addr.add; split <;> simp_all
  rw [e, blk_cell h]
  match j, hj with
  | 0, _ => exact h0
  | 1, _ => exact h1
  | 2, _ => exact h2
  | 3, _ => exact h3
  | 4, _ => exact h4
  | 5, _ => exact h5
theorem eth_Bytes.rows {W : World} {g : Nat} {t : TypeId} {A0 A1 A2 A3 : Option Addr} {c0 c1 c2 c3 : Nat} {l0 l1 l2 l3 : List Int} (h : W.heap[g]? = some (.cells #[.slice A0 l0.length c0, .slice A1 l1.length c1, .slice A2 l2.length c2, .slice A3 l3.length c3] t (0, 0)))
    (k0 : l0.length ≤ c0) (k1 : l1.length ≤ c1) (k2 : l2.length ≤ c2) (k3 : l3.length ≤ c3) (h0 : Kd.C (Kd.int .u8) W A0 l0.length l0) (h1 : Kd.C (Kd.int .u8) W A1 l1.length l1) (h2 : Kd.C (Kd.int .u8) W A2 l2.length l2) (h3 : Kd.C (Kd.int .u8) W A3 l3.length l3) :
    Kd.C (Kd.slice 5 (Kd.int .u8)) W (some ⟨g, 0, none⟩) 4 [l0, l1, l2, l3] := by
  refine ⟨rfl, by omega, fun _ => ⟨_, rfl, fun j p hp => ?_⟩⟩
  have e : ∀ j, (⟨g, 0, none⟩ : Addr).add j = ⟨g, j, none⟩ := fun j => by unfold Addr.add; split <;> simp_all
  have one : ∀ (v : Value) (j : Nat), W.cell? ⟨g, j, none⟩ = some v → ∀ i u, [v][i]? = some u → W.cell? ((⟨g, 0, none⟩ : Addr).add (j * 1 + i)) = some u := fun v j hc i u hu => by
    match i, hu with
    | 0, hu => cases hu; rw [e, Nat.mul_one]; exact hc
    | i + 1, hu => simp at hu
  match j, hp with
  | 0, hp => cases hp; exact ⟨_, rfl, ⟨A0, c0, rfl, k0, h0⟩, one _ 0 ((blk_cell h 0).trans rfl)⟩
  | 1, hp => cases hp; exact ⟨_, rfl, ⟨A1, c1, rfl, k1, h1⟩, one _ 1 ((blk_cell h 1).trans rfl)⟩
  | 2, hp => cases hp; exact ⟨_, rfl, ⟨A2, c2, rfl, k2, h2⟩, one _ 2 ((blk_cell h 2).trans rfl)⟩
  | 3, hp => cases hp; exact ⟨_, rfl, ⟨A3, c3, rfl, k3, h3⟩, one _ 3 ((blk_cell h 3).trans rfl)⟩
  | j + 4, hp => simp at hp
theorem eth_Bytes.two {W : World} {g : Nat} {t : TypeId} {x0 x1 : Int} (h : W.heap[g]? = some (.cells #[.int .u8 x0, .int .u8 x1] t (0, 0))) : Kd.C (Kd.int .u8) W (some ⟨g, 0, none⟩) 2 [x0, x1] := by
  refine Kd.C_of_reads (enc := Value.int .u8) (d := (0 : Int)) (h1 := fun _ => rfl) ⟨rfl, by omega, fun _ => ⟨_, rfl, fun j hj => ?_⟩⟩
  have e : ∀ j, (⟨g, 0, none⟩ : Addr).add j = ⟨g, j, none⟩ := fun j => by unfold Addr.add; split <;> simp_all
  rw [e, blk_cell h]
  match j, hj with
  | 0, _ => rfl
  | 1, _ => rfl
def eth_Bytes.T3 : Bool × List (List Nat × List Nat) := (true, [([], []), ([0], [0]), ([], []), ([2], [2]), ([], []), ([4], [4]), ([5], [5]), ([6], [6]), ([], []), ([8], [8]), ([9], [9]), ([7, 10], [7, 10]), ([], []), ([12], [12]), ([1, 3, 11, 13], [1, 3, 11, 13]), ([14], [14]), ([15, 15, 0, 1, 2, 3, 4, 5, 6, 7, 8, 9, 10, 11, 12, 13, 14, 15], [15]), ([16, 0, 1, 2, 3, 4, 5, 6, 7, 8, 9, 10, 11, 12, 13, 14, 15, 16], [])])
def eth_Bytes.B3 : List Nat := [0, 1, 0, 4, 0, 16, 48, 112, 0, 256, 768, 2032, 0, 4096, 16383, 32767, 65535, 131071]
theorem eth_Bytes.tab3 : rtab .any (opsOf Try.f16 3) = eth_Bytes.T3 := by kernel_rfl
theorem eth_Bytes.bits3 : waitsOk eth_Bytes.T3.2 eth_Bytes.B3 = true := by kernel_rfl
def eth_Bytes.f (k : Nat) (a0_0 : Int) (a0_1 : Int) (a0_2 : Int) (a0_3 : Int) (a0_4 : Int) (a0_5 : Int) (a0_6 : Int) (a0_7 : Int) (a0_8 : Int) (a0_9 : Int) (a0_10 : Int) (a0_11 : Int) (a0_12 : Int) (l0_13 : List Int) : Option (List Int × Int) := if (l0_13.length : Int) > 1586 then some ([], 23) else (slices_Concat_byte_byte.f k [[a0_0, a0_1, a0_2, a0_3, a0_4, a0_5], [a0_6, a0_7, a0_8, a0_9, a0_10, a0_11], [(a0_12 / 256) % 256, a0_12 % 256], l0_13]).bind fun b => some (b, 0)
theorem eth_Bytes.mono : ∀ a0_0 a0_1 a0_2 a0_3 a0_4 a0_5 a0_6 a0_7 a0_8 a0_9 a0_10 a0_11 a0_12 l0_13 k, LeO (eth_Bytes.f k a0_0 a0_1 a0_2 a0_3 a0_4 a0_5 a0_6 a0_7 a0_8 a0_9 a0_10 a0_11 a0_12 l0_13) (eth_Bytes.f (k + 1) a0_0 a0_1 a0_2 a0_3 a0_4 a0_5 a0_6 a0_7 a0_8 a0_9 a0_10 a0_11 a0_12 l0_13) := by
  intro a0_0 a0_1 a0_2 a0_3 a0_4 a0_5 a0_6 a0_7 a0_8 a0_9 a0_10 a0_11 a0_12 l0_13 k
  unfold eth_Bytes.f
  exact LeO.ite (LeO.refl _) (LeO.bind (slices_Concat_byte_byte.mono _ _) (fun _ => LeO.refl _))
set_option maxHeartbeats 8000000 in
set_option maxRecDepth 100000 in
theorem eth_Bytes.calls (k : Nat) (a0_0 : Int) (a0_1 : Int) (a0_2 : Int) (a0_3 : Int) (a0_4 : Int) (a0_5 : Int) (a0_6 : Int) (a0_7 : Int) (a0_8 : Int) (a0_9 : Int) (a0_10 : Int) (a0_11 : Int) (a0_12 : Int) (A0_13 : Option Addr) (c0_13 : Nat) (l0_13 : List Int) (r1 : List Int) (r2 : Int) (w : World) (hr0_13 : Kd.C (Kd.int .u8) w A0_13 l0_13.length l0_13) (hc0_13 : l0_13.length ≤ c0_13) (h : eth_Bytes.f k a0_0 a0_1 a0_2 a0_3 a0_4 a0_5 a0_6 a0_7 a0_8 a0_9 a0_10 a0_11 a0_12 l0_13 = some (r1, r2)) :
    Calls Try.prog 16 #[.agg #[.int .u8 a0_0, .int .u8 a0_1, .int .u8 a0_2, .int .u8 a0_3, .int .u8 a0_4, .int .u8 a0_5, .int .u8 a0_6, .int .u8 a0_7, .int .u8 a0_8, .int .u8 a0_9, .int .u8 a0_10, .int .u8 a0_11, .int .u16 a0_12, .slice A0_13 l0_13.length c0_13]] w fun e w' => ∃ v0_ : Value, e = .returned (.tuple #[v0_, .int .i64 r2]) ∧ Kd.R (Kd.int .u8) 5 w' w.heap.size (fun _ => True) v0_ r1 ∧ Below w.heap.size w w' := by
  have hu28 := Try.underlying28
  have HR0 := Aside0.mk hr0_13
  have HC0 := Aside0.mk hc0_13
  clear hr0_13 hc0_13
  have HB := Aside0.mk (Below.refl w.heap.size w)
  unfold eth_Bytes.f at h
  by_cases c1 : (l0_13.length : Int) > 1586
  · rw [if_pos c1] at h
    simp only [Option.some.injEq, Prod.mk.injEq] at h
    obtain ⟨rfl, rfl⟩ := h
    have c1b : decide (1586 < (l0_13.length : Int)) = true := decide_eq_true c1
    clear c1
    go_enter Try.func16, Try.ntmps16
    go_upto_region 1 with (first | ((with_reducible refine gate_dst (N := 1) rfl ?_); refine box_event ?hg (N := 1) ?hd (cs := #[.int .u8 a0_0, .int .u8 a0_1, .int .u8 a0_2, .int .u8 a0_3, .int .u8 a0_4, .int .u8 a0_5, .int .u8 a0_6, .int .u8 a0_7, .int .u8 a0_8, .int .u8 a0_9, .int .u8 a0_10, .int .u8 a0_11, .int .u16 a0_12, .slice A0_13 l0_13.length c0_13]) (t := 28) ?hr ?_; (case hd => rfl); (case hg => rfl); (case hr => first | (go_simp; done) | (go_simp; rfl)); intro gp hg w1 hbox hb; have n0_ := Aside0.mk (below_step (by repeat (first | (with_reducible first | exact HB.out | apply below_alloc | apply pw_below_drewN | apply below_drew1) | exact HB.out)) hb); have HP := Aside0.mk hbox; have GP := Aside0.mk ((by rw [hg]; exact (below_size (by repeat (first | (with_reducible first | exact HB.out | apply below_alloc | apply pw_below_drewN | apply below_drew1) | exact HB.out)))) : w.heap.size ≤ gp); clear HB; have HB := n0_; clear n0_ hb hbox hg))
    have hp12 : w1.cell? ⟨gp, 12, none⟩ = some (.int .u16 a0_12) := (blk_cell HP.out 12).trans rfl
    have hp13 : w1.cell? ⟨gp, 13, none⟩ = some (.slice A0_13 l0_13.length c0_13) := (blk_cell HP.out 13).trans rfl
    go_wp2
    go_ret2
    exact ⟨_, rfl, Kd.R_nil _ _ _ _ _, by repeat (first | (with_reducible first | exact HB.out | apply below_alloc | apply pw_below_drewN | apply below_drew1) | exact HB.out)⟩
  · rw [if_neg c1] at h
    have c1b : decide (1586 < (l0_13.length : Int)) = false := decide_eq_false c1
    obtain ⟨b, hb, h⟩ := Option.bind_eq_some_iff.mp h
    have A1 := Aside0.mk hb
    simp only [Option.some.injEq, Prod.mk.injEq] at h
    obtain ⟨rfl, rfl⟩ := h
    clear c1 hb
    go_enter Try.func16, Try.ntmps16
    go_upto_region 1 with (first | ((with_reducible refine gate_dst (N := 1) rfl ?_); refine box_event ?hg (N := 1) ?hd (cs := #[.int .u8 a0_0, .int .u8 a0_1, .int .u8 a0_2, .int .u8 a0_3, .int .u8 a0_4, .int .u8 a0_5, .int .u8 a0_6, .int .u8 a0_7, .int .u8 a0_8, .int .u8 a0_9, .int .u8 a0_10, .int .u8 a0_11, .int .u16 a0_12, .slice A0_13 l0_13.length c0_13]) (t := 28) ?hr ?_; (case hd => rfl); (case hg => rfl); (case hr => first | (go_simp; done) | (go_simp; rfl)); intro gp hg w1 hbox hb; have n0_ := Aside0.mk (below_step (by repeat (first | (with_reducible first | exact HB.out | apply below_alloc | apply pw_below_drewN | apply below_drew1) | exact HB.out)) hb); have HP := Aside0.mk hbox; have GP := Aside0.mk ((by rw [hg]; exact (below_size (by repeat (first | (with_reducible first | exact HB.out | apply below_alloc | apply pw_below_drewN | apply below_drew1) | exact HB.out)))) : w.heap.size ≤ gp); clear HB; have HB := n0_; clear n0_ hb hbox hg))
    have hp12 : w1.cell? ⟨gp, 12, none⟩ = some (.int .u16 a0_12) := (blk_cell HP.out 12).trans rfl
    have hp13 : w1.cell? ⟨gp, 13, none⟩ = some (.slice A0_13 l0_13.length c0_13) := (blk_cell HP.out 13).trans rfl
    go_upto_region 3 with (fail)
    clear hp12 hp13
    refine start_ (n := 18) (S := fun w' => w'.cell? ⟨gp, 12, none⟩ = some (.int .u16 a0_12) ∧ w'.cell? ⟨gp, 13, none⟩ = some (.slice A0_13 l0_13.length c0_13)) (ds := []) #[false, false, false, false, false, false, false, false, false, false, false, false, false, false, false, false, false, false] (by kernel_rfl) rfl rfl ⟨(blk_cell HP.out 12).trans rfl, (blk_cell HP.out 13).trans rfl⟩ (fun hHeld => ?_)
    refine with_tabW eth_Bytes.tab3 eth_Bytes.bits3 (fun HT_ HW_ => ?_)
    have n0_ := Aside0.mk (blk_drew HP.out)
    have n1_ := Aside0.mk (below_drew1 HB.out)
    clear HP HB
    have HP := n0_
    have HB := n1_
    clear n0_ n1_
    generalize w1.drew = w2 at HP HB hHeld ⊢
    refine pure_ (i := 0) (N := some 8) (v := ?_) (a' := ?_) #[true, false, false, false, false, false, false, false, false, false, false, false, false, false, false, false, false, false] rfl rfl (any_of HT_.out (by kernel_rfl)) (fun _ _ _ h => h) (Or.inl ⟨by rfl, ?_⟩) ?_ ?_
    rotate_left
    · intro w'
      go_simp
      with_reducible rfl
    rotate_left
    · simp only [Act.put, List.setIfInBounds_toArray, List.set_cons_zero, List.set_cons_succ, i64_w, i32_w]
      rfl
    refine pure_ (i := 1) (N := some 9) (v := ?_) (a' := ?_) #[true, true, false, false, false, false, false, false, false, false, false, false, false, false, false, false, false, false] rfl rfl (any_of HT_.out (by kernel_rfl)) (fun _ _ _ h => h) (Or.inl ⟨by rfl, ?_⟩) ?_ ?_
    rotate_left
    · intro w'
      go_simp
      with_reducible rfl
    rotate_left
    · simp only [Act.put, List.setIfInBounds_toArray, List.set_cons_zero, List.set_cons_succ, i64_w, i32_w]
      rfl
    refine pure_ (i := 2) (N := some 10) (v := ?_) (a' := ?_) #[true, true, true, false, false, false, false, false, false, false, false, false, false, false, false, false, false, false] rfl rfl (any_of HT_.out (by kernel_rfl)) (fun _ _ _ h => h) (Or.inl ⟨by rfl, ?_⟩) ?_ ?_
    rotate_left
    · intro w'
      go_simp
      with_reducible rfl
    rotate_left
    · simp only [Act.put, List.setIfInBounds_toArray, List.set_cons_zero, List.set_cons_succ, i64_w, i32_w]
      rfl
    refine pure_ (i := 3) (N := some 11) (v := ?_) (a' := ?_) #[true, true, true, true, false, false, false, false, false, false, false, false, false, false, false, false, false, false] rfl rfl (any_of HT_.out (by kernel_rfl)) (fun _ _ _ h => h) (Or.inl ⟨by rfl, ?_⟩) ?_ ?_
    rotate_left
    · intro w'
      go_simp
      with_reducible rfl
    rotate_left
    · simp only [Act.put, List.setIfInBounds_toArray, List.set_cons_zero, List.set_cons_succ, i64_w, i32_w]
      rfl
    refine pure_ (i := 4) (N := some 12) (v := ?_) (a' := ?_) #[true, true, true, true, true, false, false, false, false, false, false, false, false, false, false, false, false, false] rfl rfl (any_of HT_.out (by kernel_rfl)) (fun _ _ _ h => h) (Or.inl ⟨by rfl, ?_⟩) ?_ ?_
    rotate_left
    · intro w'
      go_simp
      with_reducible rfl
    rotate_left
    · simp only [Act.put, List.setIfInBounds_toArray, List.set_cons_zero, List.set_cons_succ, i64_w, i32_w]
      rfl
    refine take_ (i := 5) (N := some 13) (v := ?_) (a' := ?_) #[true, true, true, true, true, true, false, false, false, false, false, false, false, false, false, false, false, false] rfl rfl (take_ofW HT_.out HW_.out (by kernel_rfl)) (fun _ _ _ h => h) (Or.inl ⟨by rfl, ?_⟩) hHeld ?_ ?_
    rotate_left
    · rintro w' ⟨s0, s1⟩
      go_simp
      with_reducible rfl
    rotate_left
    · simp only [Act.put, List.setIfInBounds_toArray, List.set_cons_zero, List.set_cons_succ, i64_w, i32_w]
      rfl
    refine pure_ (i := 6) (N := some 14) (v := ?_) (a' := ?_) #[true, true, true, true, true, true, true, false, false, false, false, false, false, false, false, false, false, false] rfl rfl (any_of HT_.out (by kernel_rfl)) (fun _ _ _ h => h) (Or.inl ⟨by rfl, ?_⟩) ?_ ?_
    rotate_left
    · intro w'
      go_simp
      with_reducible rfl
    rotate_left
    · simp only [Act.put, List.setIfInBounds_toArray, List.set_cons_zero, List.set_cons_succ, i64_w, i32_w]
      rfl
    refine pure_ (i := 7) (N := some 15) (v := ?_) (a' := ?_) #[true, true, true, true, true, true, true, true, false, false, false, false, false, false, false, false, false, false] rfl rfl (any_of HT_.out (by kernel_rfl)) (fun _ _ _ h => h) (Or.inl ⟨by rfl, ?_⟩) ?_ ?_
    rotate_left
    · intro w'
      go_simp
      with_reducible rfl
    rotate_left
    · simp only [Act.put, List.setIfInBounds_toArray, List.set_cons_zero, List.set_cons_succ, i64_w, i32_w]
      rfl
    refine pure_ (i := 8) (N := some 16) (v := ?_) (a' := ?_) #[true, true, true, true, true, true, true, true, true, false, false, false, false, false, false, false, false, false] rfl rfl (any_of HT_.out (by kernel_rfl)) (fun _ _ _ h => h) (Or.inl ⟨by rfl, ?_⟩) ?_ ?_
    rotate_left
    · intro w'
      go_simp
      with_reducible rfl
    rotate_left
    · simp only [Act.put, List.setIfInBounds_toArray, List.set_cons_zero, List.set_cons_succ, i64_w, i32_w]
      rfl
    refine take_ (i := 9) (N := some 17) (v := ?_) (a' := ?_) #[true, true, true, true, true, true, true, true, true, true, false, false, false, false, false, false, false, false] rfl rfl (take_ofW HT_.out HW_.out (by kernel_rfl)) (fun _ _ _ h => h) (Or.inl ⟨by rfl, ?_⟩) hHeld ?_ ?_
    rotate_left
    · rintro w' ⟨s0, s1⟩
      go_simp
      with_reducible rfl
    rotate_left
    · simp only [Act.put, List.setIfInBounds_toArray, List.set_cons_zero, List.set_cons_succ, i64_w, i32_w]
      rfl
    refine pure_ (i := 10) (N := some 18) (v := ?_) (a' := ?_) #[true, true, true, true, true, true, true, true, true, true, true, false, false, false, false, false, false, false] rfl rfl (any_of HT_.out (by kernel_rfl)) (fun _ _ _ h => h) (Or.inl ⟨by rfl, ?_⟩) ?_ ?_
    rotate_left
    · intro w'
      go_simp
      with_reducible rfl
    rotate_left
    · simp only [Act.put, List.setIfInBounds_toArray, List.set_cons_zero, List.set_cons_succ, i64_w, i32_w]
      rfl
    refine pure_ (i := 12) (N := some 20) (v := ?_) (a' := ?_) #[true, true, true, true, true, true, true, true, true, true, true, false, true, false, false, false, false, false] rfl rfl (any_of HT_.out (by kernel_rfl)) (fun _ _ _ h => h) (Or.inl ⟨by rfl, ?_⟩) ?_ ?_
    rotate_left
    · intro w'
      go_simp
      with_reducible rfl
    rotate_left
    · simp only [Act.put, List.setIfInBounds_toArray, List.set_cons_zero, List.set_cons_succ, i64_w, i32_w]
      rfl
    refine take_ (i := 13) (N := some 21) (v := ?_) (a' := ?_) #[true, true, true, true, true, true, true, true, true, true, true, false, true, true, false, false, false, false] rfl rfl (take_ofW HT_.out HW_.out (by kernel_rfl)) (fun _ _ _ h => h) (Or.inl ⟨by rfl, ?_⟩) hHeld ?_ ?_
    rotate_left
    · rintro w' ⟨s0, s1⟩
      go_simp
      with_reducible rfl
    rotate_left
    · simp only [Act.put, List.setIfInBounds_toArray, List.set_cons_zero, List.set_cons_succ, i64_w, i32_w]
      rfl
    refine one_ (i := 11) (N := some 19) #[true, true, true, true, true, true, true, true, true, true, true, true, true, true, false, false, false, false] rfl rfl (one_of HT_.out (by kernel_rfl)) (by decide) (fun K hK => ?_)
    refine value_ (v := .slice (some ⟨w2.heap.size, 0, none⟩) 2 2) (w1 := w2.alloc (.cells #[.int .u8 ((a0_12 / 256) % 256), .int .u8 (a0_12 % 256)] 5)) (by rfl) rfl ?_ ?_
    · first | (go_simp; done) | (go_simp; simp only [IntKind.wrap_u8, IntKind.wrap_u16, IntKind.wrap_u32]; done) | (go_simp; rfl)
    have n0_ := Aside0.mk (blk_alloc HP.out (.cells #[.int .u8 ((a0_12 / 256) % 256), .int .u8 (a0_12 % 256)] 5))
    have n1_ := Aside0.mk (below_alloc HB.out (.cells #[.int .u8 ((a0_12 / 256) % 256), .int .u8 (a0_12 % 256)] 5))
    have HN := Aside0.mk (blk_new w2 (.cells #[.int .u8 ((a0_12 / 256) % 256), .int .u8 (a0_12 % 256)] 5))
    clear HP HB
    have HP := n0_
    have HB := n1_
    clear n0_ n1_
    refine hK.out _ _ ⟨(blk_cell HP.out 12).trans rfl, (blk_cell HP.out 13).trans rfl⟩ (fun hHeld => ?_)
    clear hK K
    refine norm_ (a' := ?_) ?_ ?_
    rotate_left
    · show Act.put _ (some 19) _ = _
      simp only [Act.put, List.setIfInBounds_toArray, List.set_cons_zero, List.set_cons_succ, i64_w, i32_w]
      rfl
    generalize w2.alloc (.cells #[.int .u8 ((a0_12 / 256) % 256), .int .u8 (a0_12 % 256)] 5) = w3 at HP HB HN hHeld ⊢
    refine one_ (i := 14) (N := some 22) #[true, true, true, true, true, true, true, true, true, true, true, true, true, true, true, false, false, false] rfl rfl (one_of HT_.out (by kernel_rfl)) (by decide) (fun K hK => ?_)
    refine value_ (v := .slice (some ⟨w3.heap.size, 0, none⟩) 4 4) (w1 := w3.alloc (.cells #[.slice (some ⟨gp, 0, none⟩) 6 6, .slice (some ⟨gp, 6, none⟩) 6 6, .slice (some ⟨w2.heap.size, 0, none⟩) 2 2, .slice A0_13 l0_13.length c0_13] 22)) (by rfl) rfl ?_ ?_
    · first | (go_simp; done) | (go_simp; rfl)
    have n0_ := Aside0.mk (blk_alloc HP.out (.cells #[.slice (some ⟨gp, 0, none⟩) 6 6, .slice (some ⟨gp, 6, none⟩) 6 6, .slice (some ⟨w2.heap.size, 0, none⟩) 2 2, .slice A0_13 l0_13.length c0_13] 22))
    have n1_ := Aside0.mk (below_alloc HB.out (.cells #[.slice (some ⟨gp, 0, none⟩) 6 6, .slice (some ⟨gp, 6, none⟩) 6 6, .slice (some ⟨w2.heap.size, 0, none⟩) 2 2, .slice A0_13 l0_13.length c0_13] 22))
    have n2_ := Aside0.mk (blk_alloc HN.out (.cells #[.slice (some ⟨gp, 0, none⟩) 6 6, .slice (some ⟨gp, 6, none⟩) 6 6, .slice (some ⟨w2.heap.size, 0, none⟩) 2 2, .slice A0_13 l0_13.length c0_13] 22))
    have HQ := Aside0.mk (blk_new w3 (.cells #[.slice (some ⟨gp, 0, none⟩) 6 6, .slice (some ⟨gp, 6, none⟩) 6 6, .slice (some ⟨w2.heap.size, 0, none⟩) 2 2, .slice A0_13 l0_13.length c0_13] 22))
    clear HP HB HN
    have HP := n0_
    have HB := n1_
    have HN := n2_
    clear n0_ n1_ n2_
    refine hK.out _ _ ⟨(blk_cell HP.out 12).trans rfl, (blk_cell HP.out 13).trans rfl⟩ (fun hHeld => ?_)
    clear hK K
    refine norm_ (a' := ?_) ?_ ?_
    rotate_left
    · show Act.put _ (some 22) _ = _
      simp only [Act.put, List.setIfInBounds_toArray, List.set_cons_zero, List.set_cons_succ, i64_w, i32_w]
      rfl
    generalize w3.alloc (.cells #[.slice (some ⟨gp, 0, none⟩) 6 6, .slice (some ⟨gp, 6, none⟩) 6 6, .slice (some ⟨w2.heap.size, 0, none⟩) 2 2, .slice A0_13 l0_13.length c0_13] 22) = w4 at HP HB HN HQ hHeld ⊢
    refine one_ (i := 15) (N := some 23) #[true, true, true, true, true, true, true, true, true, true, true, true, true, true, true, true, false, false] rfl rfl (one_of HT_.out (by kernel_rfl)) (by decide) (fun K hK => ?_)
    refine goes_ Try.func37 (by kernel_rfl) rfl #[.slice (some ⟨w3.heap.size, 0, none⟩) 4 4] (by rfl) rfl rfl (by first | rfl | (go_simp; done)) ?_
    refine (slices_Concat_byte_byte.calls k _ 4 [[a0_0, a0_1, a0_2, a0_3, a0_4, a0_5], [a0_6, a0_7, a0_8, a0_9, a0_10, a0_11], [(a0_12 / 256) % 256, a0_12 % 256], l0_13] b _ (eth_Bytes.rows HQ.out (Nat.le_refl _) (Nat.le_refl _) (Nat.le_refl _) HC0.out (eth_Bytes.lies (o := 0) HP.out rfl rfl rfl rfl rfl rfl) (eth_Bytes.lies (o := 6) HP.out rfl rfl rfl rfl rfl rfl) (eth_Bytes.two HN.out) (Kd.C_below HR0.out HB.out)) (Nat.le_refl _) A1.out).mono ?_
    rintro e w5 ⟨v1, rfl, ho, hb⟩
    refine ⟨_, rfl, ?_⟩
    have HO := Aside0.mk (Kd.R_lower ho (below_size HB.out))
    have n0_ := Aside0.mk (blk_below (g := gp) (o := .cells #[.int .u8 a0_0, .int .u8 a0_1, .int .u8 a0_2, .int .u8 a0_3, .int .u8 a0_4, .int .u8 a0_5, .int .u8 a0_6, .int .u8 a0_7, .int .u8 a0_8, .int .u8 a0_9, .int .u8 a0_10, .int .u8 a0_11, .int .u16 a0_12, .slice A0_13 l0_13.length c0_13] 28 (0, 0)) HP.out hb)
    have n1_ := Aside0.mk (below_step HB.out hb)
    clear HP HB HN HQ ho hb
    have HP := n0_
    have HB := n1_
    clear n0_ n1_
    refine hK.out _ _ ⟨(blk_cell HP.out 12).trans rfl, (blk_cell HP.out 13).trans rfl⟩ (fun hHeld => ?_)
    clear hK K
    refine norm_ (a' := ?_) ?_ ?_
    rotate_left
    · show Act.put _ (some 23) _ = _
      simp only [Act.put, List.setIfInBounds_toArray, List.set_cons_zero, List.set_cons_succ, i64_w, i32_w]
      rfl
    refine pure_ (i := 16) (N := some 2) (v := ?_) (a' := ?_) #[true, true, true, true, true, true, true, true, true, true, true, true, true, true, true, true, true, false] rfl rfl (any_of HT_.out (by kernel_rfl)) (fun _ _ _ h => h) (Or.inl ⟨by rfl, ?_⟩) ?_ ?_
    rotate_left
    · intro w'
      go_simp
      with_reducible rfl
    rotate_left
    · simp only [Act.put, List.setIfInBounds_toArray, List.set_cons_zero, List.set_cons_succ, i64_w, i32_w]
      rfl
    refine pure_ (i := 17) (N := some 3) (v := ?_) (a' := ?_) #[true, true, true, true, true, true, true, true, true, true, true, true, true, true, true, true, true, true] rfl rfl (any_of HT_.out (by kernel_rfl)) (fun _ _ _ h => h) (Or.inl ⟨by rfl, ?_⟩) ?_ ?_
    rotate_left
    · intro w'
      go_simp
      with_reducible rfl
    rotate_left
    · simp only [Act.put, List.setIfInBounds_toArray, List.set_cons_zero, List.set_cons_succ, i64_w, i32_w]
      rfl
    refine done_ (done_of HT_.out (by kernel_rfl)) ?_
    (try go_wp2)
    go_ret2
    exact ⟨_, rfl, HO.out, HB.out⟩

end Go.Proofs.Ytnfgmcjgmccggaa.PA
