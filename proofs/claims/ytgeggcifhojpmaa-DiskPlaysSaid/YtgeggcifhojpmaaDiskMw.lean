import Derived.Test.YtgeggcifhojpmaaDiskModel
import Derived.Laws.CopyRow
import Derived.Laws.MakeOwn
import Derived.Laws.CopyOwn
namespace Go.Proofs.Ytgeggcifhojpmaa.PA
open Go.RowKit Go.Proofs.YtgeggcifhojpmaaW.PrintWords Go.Proofs.YtgeggcifhojpmaaW.PrintLast Go.Proofs.YtgeggcifhojpmaaW.PrintMore
attribute [local go_sem] max2_int min2_int max_two min_two max_three min_three max_four min_four   -- for this text's walks alone
set_option linter.unusedVariables false
set_option linter.unusedSimpArgs false

set_option maxHeartbeats 4000000 in
set_option maxRecDepth 100000 in
theorem model_write.dead {w : World} {base gm qm cap s : Nat} {ms : List (Nat × Nat)} {bs : List (List Int)} {n pre : Int} {dead armed : Bool} (hd : MK w base gm qm cap s ms bs n pre dead armed) (i : Int) (he : dead = true) (ad : Addr) (bl : List Int) (cap2 : Nat) (hcap : bl.length ≤ cap2) : Calls Try.prog 17 #[.pointer (some ⟨gm, 0, none⟩), .int .i64 i, .slice (some ad) bl.length cap2] w fun e w' => e = .returned (.int .i64 42) ∧ Drawn0 w w' := by
  have hu41 := Try.underlying41
  have HM := Aside0.mk hd
  clear hd
  have m0 : w.cell? ⟨gm, 0, none⟩ = some (.slice (some ⟨qm, 0, none⟩) ms.length cap) := (blk_cell HM.out.top 0).trans rfl
  have y0 := blk_frozen HM.out.top 0
  have m1 : w.cell? ⟨gm, 1, none⟩ = some (.int .i64 s) := (blk_cell HM.out.top 1).trans rfl
  have y1 := blk_frozen HM.out.top 1
  have m2 : w.cell? ⟨gm, 2, none⟩ = some (.bool dead) := (blk_cell HM.out.top 2).trans rfl
  have y2 := blk_frozen HM.out.top 2
  have m3 : w.cell? ⟨gm, 3, none⟩ = some (.bool armed) := (blk_cell HM.out.top 3).trans rfl
  have y3 := blk_frozen HM.out.top 3
  have m4 : w.cell? ⟨gm, 4, none⟩ = some (.int .i64 n) := (blk_cell HM.out.top 4).trans rfl
  have y4 := blk_frozen HM.out.top 4
  have m5 : w.cell? ⟨gm, 5, none⟩ = some (.int .i64 pre) := (blk_cell HM.out.top 5).trans rfl
  have y5 := blk_frozen HM.out.top 5
  subst he
  clear hcap
  go_enter Try.func17, Try.ntmps17
  go_wp2
  (try simp only [Exit.inBlock, Exit.then])
  go_ret
  exact ⟨rfl, by repeat (first | exact Drawn0.refl _ | exact ⟨_, rfl⟩ | apply Drawn0.step)⟩
set_option maxHeartbeats 4000000 in
set_option maxRecDepth 100000 in
theorem model_write.place {w : World} {base gm qm cap s : Nat} {ms : List (Nat × Nat)} {bs : List (List Int)} {n pre : Int} {dead armed : Bool} (hd : MK w base gm qm cap s ms bs n pre dead armed) (i : Int) (he : dead = false) (hi : i < 0 ∨ (ms.length : Int) ≤ i) (ad : Addr) (bl : List Int) (cap2 : Nat) (hcap : bl.length ≤ cap2) : Calls Try.prog 17 #[.pointer (some ⟨gm, 0, none⟩), .int .i64 i, .slice (some ad) bl.length cap2] w fun e w' => e = .returned (.int .i64 40) ∧ Drawn0 w w' := by
  have hu41 := Try.underlying41
  have HM := Aside0.mk hd
  clear hd
  have m0 : w.cell? ⟨gm, 0, none⟩ = some (.slice (some ⟨qm, 0, none⟩) ms.length cap) := (blk_cell HM.out.top 0).trans rfl
  have y0 := blk_frozen HM.out.top 0
  have m1 : w.cell? ⟨gm, 1, none⟩ = some (.int .i64 s) := (blk_cell HM.out.top 1).trans rfl
  have y1 := blk_frozen HM.out.top 1
  have m2 : w.cell? ⟨gm, 2, none⟩ = some (.bool dead) := (blk_cell HM.out.top 2).trans rfl
  have y2 := blk_frozen HM.out.top 2
  have m3 : w.cell? ⟨gm, 3, none⟩ = some (.bool armed) := (blk_cell HM.out.top 3).trans rfl
  have y3 := blk_frozen HM.out.top 3
  have m4 : w.cell? ⟨gm, 4, none⟩ = some (.int .i64 n) := (blk_cell HM.out.top 4).trans rfl
  have y4 := blk_frozen HM.out.top 4
  have m5 : w.cell? ⟨gm, 5, none⟩ = some (.int .i64 pre) := (blk_cell HM.out.top 5).trans rfl
  have y5 := blk_frozen HM.out.top 5
  subst he
  clear hcap
  by_cases k1 : i < 0
  · have k1b : decide (i < 0) = true := decide_eq_true k1
    clear hi k1
    go_enter Try.func17, Try.ntmps17
    go_wp2
    (try simp only [Exit.inBlock, Exit.then])
    go_ret
    exact ⟨rfl, by repeat (first | exact Drawn0.refl _ | exact ⟨_, rfl⟩ | apply Drawn0.step)⟩
  · have k1b : decide (i < 0) = false := decide_eq_false k1
    have k2b : decide ((ms.length : Int) ≤ i) = true := decide_eq_true (by omega)
    clear hi k1
    go_enter Try.func17, Try.ntmps17
    go_wp2
    (try simp only [Exit.inBlock, Exit.then])
    go_ret
    exact ⟨rfl, by repeat (first | exact Drawn0.refl _ | exact ⟨_, rfl⟩ | apply Drawn0.step)⟩
set_option maxHeartbeats 4000000 in
set_option maxRecDepth 100000 in
theorem model_write.size {w : World} {base gm qm cap s : Nat} {ms : List (Nat × Nat)} {bs : List (List Int)} {n pre : Int} {dead armed : Bool} (hd : MK w base gm qm cap s ms bs n pre dead armed) (k : Nat) (he : dead = false) (hk : k < ms.length) (ad : Addr) (bl : List Int) (cap2 : Nat) (hcap : bl.length ≤ cap2) (hl : bl.length ≠ s) : Calls Try.prog 17 #[.pointer (some ⟨gm, 0, none⟩), .int .i64 (k : Int), .slice (some ad) bl.length cap2] w fun e w' => e = .returned (.int .i64 41) ∧ Drawn0 w w' := by
  have hu41 := Try.underlying41
  have HM := Aside0.mk hd
  clear hd
  have m0 : w.cell? ⟨gm, 0, none⟩ = some (.slice (some ⟨qm, 0, none⟩) ms.length cap) := (blk_cell HM.out.top 0).trans rfl
  have y0 := blk_frozen HM.out.top 0
  have m1 : w.cell? ⟨gm, 1, none⟩ = some (.int .i64 s) := (blk_cell HM.out.top 1).trans rfl
  have y1 := blk_frozen HM.out.top 1
  have m2 : w.cell? ⟨gm, 2, none⟩ = some (.bool dead) := (blk_cell HM.out.top 2).trans rfl
  have y2 := blk_frozen HM.out.top 2
  have m3 : w.cell? ⟨gm, 3, none⟩ = some (.bool armed) := (blk_cell HM.out.top 3).trans rfl
  have y3 := blk_frozen HM.out.top 3
  have m4 : w.cell? ⟨gm, 4, none⟩ = some (.int .i64 n) := (blk_cell HM.out.top 4).trans rfl
  have y4 := blk_frozen HM.out.top 4
  have m5 : w.cell? ⟨gm, 5, none⟩ = some (.int .i64 pre) := (blk_cell HM.out.top 5).trans rfl
  have y5 := blk_frozen HM.out.top 5
  subst he
  clear hcap
  have k1b : decide ((k : Int) < 0) = false := decide_eq_false (by omega)
  have k2b : decide ((ms.length : Int) ≤ (k : Int)) = false := decide_eq_false (by omega)
  have k2c : decide (ms.length ≤ k) = false := decide_eq_false (by omega)
  have k3 : ((bl.length : Int) = (s : Int)) = False := eq_false (by omega)
  have k4 : (bl.length = s) = False := eq_false hl
  have k5 : ((bl.length : Int) == (s : Int)) = false := beq_eq_false_iff_ne.2 (by omega)
  have k6 : (bl.length == s) = false := beq_eq_false_iff_ne.2 hl
  clear hk hl
  go_enter Try.func17, Try.ntmps17
  go_wp2
  (try simp only [Exit.inBlock, Exit.then])
  go_ret
  exact ⟨rfl, by repeat (first | exact Drawn0.refl _ | exact ⟨_, rfl⟩ | apply Drawn0.step)⟩
def model_write.T8 : Bool × List (List Nat × List Nat) := (true, [([], []), ([0], [0]), ([1], [1]), ([2], [2]), ([], []), ([3, 4], [3, 4]), ([5], [5]), ([], []), ([7], [7]), ([8], [8]), ([9], [9]), ([6, 10], [6, 10]), ([], []), ([], []), ([13], [13]), ([14], [14]), ([15], [15]), ([12, 16], [12, 16]), ([11, 17], [11, 17])])
def model_write.B8 : List Nat := [0, 1, 3, 7, 0, 31, 63, 0, 128, 384, 896, 2047, 0, 0, 8192, 24576, 57344, 126976, 262143]
theorem model_write.tab8 : rtab .any (opsOf Try.f17 8) = model_write.T8 := by kernel_rfl
theorem model_write.bits8 : waitsOk model_write.T8.2 model_write.B8 = true := by kernel_rfl
def model_write.T13 : Bool × List (List Nat × List Nat) := (true, [([], []), ([0], [0]), ([1], [1]), ([2], [2]), ([], []), ([], []), ([5], [5]), ([3, 4, 0, 1, 2, 3, 4, 5, 6], [3, 4]), ([7, 6, 6, 0, 1, 2, 3, 4, 5, 6], [6, 7])])
def model_write.B13 : List Nat := [0, 1, 3, 7, 0, 0, 32, 127, 255]
theorem model_write.tab13 : rtab .any (opsOf Try.f17 13) = model_write.T13 := by kernel_rfl
theorem model_write.bits13 : waitsOk model_write.T13.2 model_write.B13 = true := by kernel_rfl
theorem dk_copy3 {W : World} {g : Nat} {ad : Addr} {cur : Array Value} {bl : List Int} {dCap sCap : Nat} (hg : W.heap[g]? = some (.cells cur 5 (0, 0))) (hl : bl.length ≤ cur.size) (hs : ∀ (j : Nat) (x : Int), bl[j]? = some x → W.cell? (ad.add j) = some (.int .u8 x)) :
    (Builtin.copy_ #[27, 27] 3 #[.slice (some ⟨g, 0, none⟩) bl.length dCap, .slice (some ad) bl.length sCap]).run Try.prog W = .ok (.int .i64 (bl.length : Int)) (W.setRow g (bl.map (Value.int .u8) ++ cur.toList.drop bl.length).toArray) := by
  obtain ⟨i, hi, hz, hsz, hb⟩ := info_parts info5
  have h1 := run_copy_row (P := Try.prog) W 27 27 3 5 g 0 bl.length dCap ad bl.length sCap cur 5 (bl.map (Value.int .u8)) Try.underlying27 (by rw [hi]; simp [hsz]) hg (by simp) (fun j v hv => by
    rw [List.getElem?_map] at hv
    cases h2 : bl[j]? with
    | none => rw [h2] at hv; cases hv
    | some x =>
      rw [h2] at hv
      obtain rfl : Value.int .u8 x = v := Option.some.inj hv
      exact hs j x h2) (by simpa using hl) (fun v hv => by
    obtain ⟨x, _, rfl⟩ := List.mem_map.1 hv
    rfl)
  rw [h1]
  simp [goInt]
theorem dk_own {W : World} {base : Nat} {ok : Nat → Prop} {v : Value} {xs : List Int} (h : Kd.R (Kd.int .u8) 5 W base ok v xs) (h0 : 0 < xs.length) : ∃ g cap cur, v = .slice (some ⟨g, 0, none⟩) xs.length cap ∧ base ≤ g ∧ W.heap[g]? = some (.cells cur 5 (0, 0)) ∧ xs.length ≤ cap ∧ cur.toList.take xs.length = xs.map (Value.int .u8) := by
  have h1 := Kd.own_of_R (enc := Value.int .u8) (h1 := fun _ => rfl) h
  rcases h1.2 with ⟨_, h2⟩ | ⟨g, cap, cur, h3, h4, h5, h6, _, _, h7⟩
  · omega
  · refine ⟨g, cap, cur, h3, h4, h5, h6, ?_⟩
    rw [Nat.mul_one] at h7
    exact h7
theorem kd_of_cells {W : World} {ad : Addr} {l : List Int} (hl : l.length ≤ 1000000) (h : ∀ (j : Nat) (x : Int), l[j]? = some x → W.cell? (ad.add j) = some (.int .u8 x)) : Kd.C (Kd.int .u8) W (some ad) l.length l := by
  refine ⟨rfl, by omega, fun _ => ⟨_, rfl, fun j p hp => ⟨[.int .u8 p], rfl, rfl, fun i u hu => ?_⟩⟩⟩
  cases i with
  | zero =>
    obtain rfl : Value.int .u8 p = u := by simpa using hu
    have := h j p hp
    simpa [Kd.int, Kd.scalar] using this
  | succ n => simp at hu
theorem take_mix {cur : List Value} {l bl : List Int} {s p : Nat} (h : cur.take s = l.map (Value.int .u8)) (hb : bl.length = s) (hp : p ≤ s) : ((bl.take p).map (Value.int .u8) ++ cur.drop p).take s = (bl.take p ++ l.drop p).map (Value.int .u8) := by
  have h1 : ((bl.take p).map (Value.int .u8)).length = p := by rw [List.length_map, List.length_take]; omega
  rw [List.take_append, h1, List.take_of_length_le (by omega), List.map_append]
  congr 1
  rw [List.map_drop, ← h, List.drop_take]
set_option maxHeartbeats 4000000 in
set_option maxRecDepth 100000 in
theorem model_write.fell {w : World} {base gm qm cap s : Nat} {ms : List (Nat × Nat)} {bs : List (List Int)} {n pre : Int} {dead armed : Bool} (hd : MK w base gm qm cap s ms bs n pre dead armed) (k p : Nat) (l : List Int) (he : dead = false) (ha : armed = true) (h0 : n = 0) (hk : k < ms.length) (hbl : bs[k]? = some l) (hp : pre = (p : Int)) (hps : p ≤ s) (ad : Addr) (bl : List Int) (cap2 : Nat) (hcap : bl.length ≤ cap2) (hs1 : ∀ (j : Nat) (x : Int), bl[j]? = some x → w.cell? (ad.add j) = some (.int .u8 x)) (hl : bl.length = s) : Calls Try.prog 17 #[.pointer (some ⟨gm, 0, none⟩), .int .i64 (k : Int), .slice (some ad) bl.length cap2] w fun e w' => e = .returned (.int .i64 42) ∧ MK w' base gm qm cap s ms (bs.set k (bl.take p ++ l.drop p)) 0 pre true true ∧ DF (fun x => x = gm ∨ ∃ y ∈ ms, y.1 = x) w w' := by
  have hu41 := Try.underlying41
  have HM := Aside0.mk hd
  clear hd
  have m0 : w.cell? ⟨gm, 0, none⟩ = some (.slice (some ⟨qm, 0, none⟩) ms.length cap) := (blk_cell HM.out.top 0).trans rfl
  have y0 := blk_frozen HM.out.top 0
  have m1 : w.cell? ⟨gm, 1, none⟩ = some (.int .i64 s) := (blk_cell HM.out.top 1).trans rfl
  have y1 := blk_frozen HM.out.top 1
  have m2 : w.cell? ⟨gm, 2, none⟩ = some (.bool dead) := (blk_cell HM.out.top 2).trans rfl
  have y2 := blk_frozen HM.out.top 2
  have m3 : w.cell? ⟨gm, 3, none⟩ = some (.bool armed) := (blk_cell HM.out.top 3).trans rfl
  have y3 := blk_frozen HM.out.top 3
  have m4 : w.cell? ⟨gm, 4, none⟩ = some (.int .i64 n) := (blk_cell HM.out.top 4).trans rfl
  have y4 := blk_frozen HM.out.top 4
  have m5 : w.cell? ⟨gm, 5, none⟩ = some (.int .i64 pre) := (blk_cell HM.out.top 5).trans rfl
  have y5 := blk_frozen HM.out.top 5
  subst he
  subst ha
  subst h0
  subst hp
  obtain ⟨b, l_, cur, r0, r1, r2, r3, r4, r5⟩ := HM.out.at hk
  obtain rfl : l_ = l := Option.some.inj (r1.symm.trans hbl)
  have H0 := Aside0.mk r0
  have H2 := Aside0.mk (And.intro r2 r3)
  have H4 := Aside0.mk r4
  have H5 := Aside0.mk r5
  have HS := Aside0.mk hs1
  have HP := Aside0.mk (And.intro hps (And.intro hl hcap))
  have k1b : decide ((k : Int) < 0) = false := decide_eq_false (by omega)
  have k2b : decide ((ms.length : Int) ≤ (k : Int)) = false := decide_eq_false (by omega)
  have k2c : decide (ms.length ≤ k) = false := decide_eq_false (by omega)
  have k3 : ((bl.length : Int) = (s : Int)) = True := eq_true (by omega)
  have k4 : (bl.length = s) = True := eq_true hl
  have k5 : ((bl.length : Int) == (s : Int)) = true := beq_iff_eq.2 (by omega)
  have k6 : (bl.length == s) = true := beq_iff_eq.2 hl
  have q0 : ((k : Int) < (ms.length : Int)) = True := eq_true (by omega)
  have q1 : (k < ms.length) = True := eq_true hk
  have q2 : (p ≤ cap2) = True := eq_true (by omega)
  have q3 : ((p : Int) ≤ (cap2 : Int)) = True := eq_true (by omega)
  have q4 : ((cap2 : Int) < (p : Int)) = False := eq_false (by omega)
  have q5 : (cap2 < p) = False := eq_false (by omega)
  have q6 : (p ≤ b.2) = True := eq_true (by omega)
  have q7 : ((p : Int) ≤ (b.2 : Int)) = True := eq_true (by omega)
  have q8 : ((b.2 : Int) < (p : Int)) = False := eq_false (by omega)
  have q9 : (b.2 < p) = False := eq_false (by omega)
  clear hk hl hps hcap hs1 r0 r1 r2 r3 r4 r5 hbl
  go_enter Try.func17, Try.ntmps17
  go_upto_region 8 with (fail)
  refine start_ (n := 19) (S := (fun w' => w'.cell? ⟨gm, 0, none⟩ = some (.slice (some ⟨qm, 0, none⟩) ms.length cap) ∧ w'.cell? ⟨qm, k, none⟩ = some (.slice (some ⟨b.1, 0, none⟩) s b.2) ∧ w'.cell? ⟨gm, 5, none⟩ = some (.int .i64 (p : Int)))) (ds := []) #[false, false, false, false, false, false, false, false, false, false, false, false, false, false, false, false, false, false, false] (by kernel_rfl) rfl rfl ⟨(blk_cell HM.out.top 0).trans rfl, (HM.out.rowAt H0.out).1, (blk_cell HM.out.top 5).trans rfl⟩ (fun hHeld => ?_)
  refine with_tabW model_write.tab8 model_write.bits8 (fun HT_ HW_ => ?_)
  refine pure_ (i := 0) (N := some 43) (v := ?_) (a' := ?_) #[true, false, false, false, false, false, false, false, false, false, false, false, false, false, false, false, false, false, false] rfl rfl (any_of HT_.out (by kernel_rfl)) (fun _ _ _ h => h) (Or.inl ⟨by rfl, ?_⟩) ?_ ?_
  rotate_left
  · intro w'
    go_simp
    with_reducible rfl
  rotate_left
  · simp only [Act.put, List.setIfInBounds_toArray, List.set_cons_zero, List.set_cons_succ, i64_w, i32_w]
    rfl
  refine pure_ (i := 1) (N := some 44) (v := ?_) (a' := ?_) #[true, true, false, false, false, false, false, false, false, false, false, false, false, false, false, false, false, false, false] rfl rfl (any_of HT_.out (by kernel_rfl)) (fun _ _ _ h => h) (Or.inl ⟨by rfl, ?_⟩) ?_ ?_
  rotate_left
  · intro w'
    go_simp
    with_reducible rfl
  rotate_left
  · simp only [Act.put, List.setIfInBounds_toArray, List.set_cons_zero, List.set_cons_succ, i64_w, i32_w]
    rfl
  refine pure_ (i := 2) (N := some 45) (v := ?_) (a' := ?_) #[true, true, true, false, false, false, false, false, false, false, false, false, false, false, false, false, false, false, false] rfl rfl (any_of HT_.out (by kernel_rfl)) (fun _ _ _ h => h) (Or.inl ⟨by rfl, ?_⟩) ?_ ?_
  rotate_left
  · intro w'
    go_simp
    with_reducible rfl
  rotate_left
  · simp only [Act.put, List.setIfInBounds_toArray, List.set_cons_zero, List.set_cons_succ, i64_w, i32_w]
    rfl
  refine take_ (i := 3) (N := some 46) (v := ?_) (a' := ?_) #[true, true, true, true, false, false, false, false, false, false, false, false, false, false, false, false, false, false, false] rfl rfl (take_ofW HT_.out HW_.out (by kernel_rfl)) (fun _ _ _ h => h) (Or.inl ⟨by rfl, ?_⟩) hHeld ?_ ?_
  rotate_left
  · intro w' s0
    obtain ⟨s0, s1, s2⟩ := s0
    go_simp
    with_reducible rfl
  rotate_left
  · simp only [Act.put, List.setIfInBounds_toArray, List.set_cons_zero, List.set_cons_succ, i64_w, i32_w]
    rfl
  refine pure_ (i := 4) (N := some 47) (v := ?_) (a' := ?_) #[true, true, true, true, true, false, false, false, false, false, false, false, false, false, false, false, false, false, false] rfl rfl (any_of HT_.out (by kernel_rfl)) (fun _ _ _ h => h) (Or.inl ⟨by rfl, ?_⟩) ?_ ?_
  rotate_left
  · intro w'
    go_simp
    with_reducible rfl
  rotate_left
  · simp only [Act.put, List.setIfInBounds_toArray, List.set_cons_zero, List.set_cons_succ, i64_w, i32_w]
    rfl
  refine pure_ (i := 5) (N := some 48) (v := ?_) (a' := ?_) #[true, true, true, true, true, true, false, false, false, false, false, false, false, false, false, false, false, false, false] rfl rfl (any_of HT_.out (by kernel_rfl)) (fun _ _ _ h => h) (Or.inl ⟨by rfl, ?_⟩) ?_ ?_
  rotate_left
  · intro w'
    go_simp
    with_reducible rfl
  rotate_left
  · simp only [Act.put, List.setIfInBounds_toArray, List.set_cons_zero, List.set_cons_succ, i64_w, i32_w]
    rfl
  refine take_ (i := 6) (N := some 49) (v := ?_) (a' := ?_) #[true, true, true, true, true, true, true, false, false, false, false, false, false, false, false, false, false, false, false] rfl rfl (take_ofW HT_.out HW_.out (by kernel_rfl)) (fun _ _ _ h => h) (Or.inl ⟨by rfl, ?_⟩) hHeld ?_ ?_
  rotate_left
  · intro w' s0
    obtain ⟨s0, s1, s2⟩ := s0
    go_simp
    with_reducible rfl
  rotate_left
  · simp only [Act.put, List.setIfInBounds_toArray, List.set_cons_zero, List.set_cons_succ, i64_w, i32_w]
    rfl
  refine pure_ (i := 7) (N := some 50) (v := ?_) (a' := ?_) #[true, true, true, true, true, true, true, true, false, false, false, false, false, false, false, false, false, false, false] rfl rfl (any_of HT_.out (by kernel_rfl)) (fun _ _ _ h => h) (Or.inl ⟨by rfl, ?_⟩) ?_ ?_
  rotate_left
  · intro w'
    go_simp
    with_reducible rfl
  rotate_left
  · simp only [Act.put, List.setIfInBounds_toArray, List.set_cons_zero, List.set_cons_succ, i64_w, i32_w]
    rfl
  refine pure_ (i := 8) (N := some 51) (v := ?_) (a' := ?_) #[true, true, true, true, true, true, true, true, true, false, false, false, false, false, false, false, false, false, false] rfl rfl (any_of HT_.out (by kernel_rfl)) (fun _ _ _ h => h) (Or.inl ⟨by rfl, ?_⟩) ?_ ?_
  rotate_left
  · intro w'
    go_simp
    with_reducible rfl
  rotate_left
  · simp only [Act.put, List.setIfInBounds_toArray, List.set_cons_zero, List.set_cons_succ, i64_w, i32_w]
    rfl
  refine pure_ (i := 9) (N := some 52) (v := ?_) (a' := ?_) #[true, true, true, true, true, true, true, true, true, true, false, false, false, false, false, false, false, false, false] rfl rfl (any_of HT_.out (by kernel_rfl)) (fun _ _ _ h => h) (Or.inl ⟨by rfl, ?_⟩) ?_ ?_
  rotate_left
  · intro w'
    go_simp
    with_reducible rfl
  rotate_left
  · simp only [Act.put, List.setIfInBounds_toArray, List.set_cons_zero, List.set_cons_succ, i64_w, i32_w]
    rfl
  refine take_ (i := 10) (N := some 53) (v := ?_) (a' := ?_) #[true, true, true, true, true, true, true, true, true, true, true, false, false, false, false, false, false, false, false] rfl rfl (take_ofW HT_.out HW_.out (by kernel_rfl)) (fun _ _ _ h => h) (Or.inl ⟨by rfl, ?_⟩) hHeld ?_ ?_
  rotate_left
  · intro w' s0
    obtain ⟨s0, s1, s2⟩ := s0
    go_simp
    with_reducible rfl
  rotate_left
  · simp only [Act.put, List.setIfInBounds_toArray, List.set_cons_zero, List.set_cons_succ, i64_w, i32_w]
    rfl
  refine pure_ (i := 11) (N := some 54) (v := ?_) (a' := ?_) #[true, true, true, true, true, true, true, true, true, true, true, true, false, false, false, false, false, false, false] rfl rfl (any_of HT_.out (by kernel_rfl)) (fun _ _ _ h => h) (Or.inl ⟨by rfl, ?_⟩) ?_ ?_
  rotate_left
  · intro w'
    go_simp
    with_reducible rfl
  rotate_left
  · simp only [Act.put, List.setIfInBounds_toArray, List.set_cons_zero, List.set_cons_succ, i64_w, i32_w]
    rfl
  refine pure_ (i := 12) (N := some 55) (v := ?_) (a' := ?_) #[true, true, true, true, true, true, true, true, true, true, true, true, true, false, false, false, false, false, false] rfl rfl (any_of HT_.out (by kernel_rfl)) (fun _ _ _ h => h) (Or.inl ⟨by rfl, ?_⟩) ?_ ?_
  rotate_left
  · intro w'
    go_simp
    with_reducible rfl
  rotate_left
  · simp only [Act.put, List.setIfInBounds_toArray, List.set_cons_zero, List.set_cons_succ, i64_w, i32_w]
    rfl
  refine pure_ (i := 13) (N := some 56) (v := ?_) (a' := ?_) #[true, true, true, true, true, true, true, true, true, true, true, true, true, true, false, false, false, false, false] rfl rfl (any_of HT_.out (by kernel_rfl)) (fun _ _ _ h => h) (Or.inl ⟨by rfl, ?_⟩) ?_ ?_
  rotate_left
  · intro w'
    go_simp
    with_reducible rfl
  rotate_left
  · simp only [Act.put, List.setIfInBounds_toArray, List.set_cons_zero, List.set_cons_succ, i64_w, i32_w]
    rfl
  refine pure_ (i := 14) (N := some 57) (v := ?_) (a' := ?_) #[true, true, true, true, true, true, true, true, true, true, true, true, true, true, true, false, false, false, false] rfl rfl (any_of HT_.out (by kernel_rfl)) (fun _ _ _ h => h) (Or.inl ⟨by rfl, ?_⟩) ?_ ?_
  rotate_left
  · intro w'
    go_simp
    with_reducible rfl
  rotate_left
  · simp only [Act.put, List.setIfInBounds_toArray, List.set_cons_zero, List.set_cons_succ, i64_w, i32_w]
    rfl
  refine pure_ (i := 15) (N := some 58) (v := ?_) (a' := ?_) #[true, true, true, true, true, true, true, true, true, true, true, true, true, true, true, true, false, false, false] rfl rfl (any_of HT_.out (by kernel_rfl)) (fun _ _ _ h => h) (Or.inl ⟨by rfl, ?_⟩) ?_ ?_
  rotate_left
  · intro w'
    go_simp
    with_reducible rfl
  rotate_left
  · simp only [Act.put, List.setIfInBounds_toArray, List.set_cons_zero, List.set_cons_succ, i64_w, i32_w]
    rfl
  refine take_ (i := 16) (N := some 59) (v := ?_) (a' := ?_) #[true, true, true, true, true, true, true, true, true, true, true, true, true, true, true, true, true, false, false] rfl rfl (take_ofW HT_.out HW_.out (by kernel_rfl)) (fun _ _ _ h => h) (Or.inl ⟨by rfl, ?_⟩) hHeld ?_ ?_
  rotate_left
  · intro w' s0
    obtain ⟨s0, s1, s2⟩ := s0
    go_simp
    with_reducible rfl
  rotate_left
  · simp only [Act.put, List.setIfInBounds_toArray, List.set_cons_zero, List.set_cons_succ, i64_w, i32_w]
    rfl
  refine pure_ (i := 17) (N := some 60) (v := ?_) (a' := ?_) #[true, true, true, true, true, true, true, true, true, true, true, true, true, true, true, true, true, true, false] rfl rfl (any_of HT_.out (by kernel_rfl)) (fun _ _ _ h => h) (Or.inl ⟨by rfl, ?_⟩) ?_ ?_
  rotate_left
  · intro w'
    go_simp
    with_reducible rfl
  rotate_left
  · simp only [Act.put, List.setIfInBounds_toArray, List.set_cons_zero, List.set_cons_succ, i64_w, i32_w]
    rfl
  refine one_ (i := 18) (N := some 61) #[true, true, true, true, true, true, true, true, true, true, true, true, true, true, true, true, true, true, true] rfl rfl (one_of HT_.out (by kernel_rfl)) (by decide) (fun K hK => ?_)
  refine value_ (v := .int .i64 (p : Int)) (w1 := w.drew.setRow b.1 ((bl.take p).map (Value.int .u8) ++ cur.toList.drop p).toArray) (by rfl) rfl ?_ ?_
  · have hcp := dk_copy3 (W := w.drew) (bl := bl.take p) (ad := ad) (dCap := b.2) (sCap := cap2) (blk_drew H4.out) (by have h := congrArg List.length H5.out; have := H2.out; have := HP.out; rw [List.length_take, List.length_map, Array.length_toList] at h; rw [List.length_take]; omega) (fun j x hx => HS.out j x (by
      rw [List.getElem?_take] at hx
      split at hx
      · exact hx
      · cases hx))
    rw [show (bl.take p).length = p by have := HP.out; rw [List.length_take]; omega] at hcp
    go_simp
  have n0_ : Aside0 (MK (w.drew.setRow b.1 ((bl.take p).map (Value.int .u8) ++ cur.toList.drop p).toArray) base gm qm cap s ms (bs.set k (bl.take p ++ l_.drop p)) _ _ false true) := ⟨(HM.out.kept (w' := w.drew) (S := fun _ => False) ⟨rfl, rfl, rfl, Nat.le_refl _, fun _ _ _ => rfl⟩ id id (fun _ _ => id)).rowL H0.out (by have := H2.out; have := HP.out; rw [List.length_append, List.length_take, List.length_drop]; omega) (by rw [List.toList_toArray]; exact take_mix H5.out HP.out.2.1 HP.out.1)⟩
  have n3_ : Aside0 (DF (fun x => x = gm ∨ ∃ y ∈ ms, y.1 = x) w (w.drew.setRow b.1 ((bl.take p).map (Value.int .u8) ++ cur.toList.drop p).toArray)) := ⟨DF.setRow (⟨rfl, rfl, rfl, Nat.le_refl _, fun _ _ _ => rfl⟩ : DF (fun x => x = gm ∨ ∃ y ∈ ms, y.1 = x) w w.drew) (Or.inr ⟨b, List.mem_of_getElem? H0.out, rfl⟩) _⟩
  generalize w.drew.setRow b.1 ((bl.take p).map (Value.int .u8) ++ cur.toList.drop p).toArray = W2 at n0_ n3_ ⊢
  clear HM HS m0 m1 m2 m3 m4 m5 y0 y1 y2 y3 y4 y5
  have HM := n0_
  have HF := n3_
  clear n0_ n3_
  refine hK.out _ _ ⟨(blk_cell HM.out.top 0).trans rfl, (HM.out.rowAt H0.out).1, (blk_cell HM.out.top 5).trans rfl⟩ (fun hHeld => ?_)
  clear hK K
  refine norm_ (a' := ?_) ?_ ?_
  rotate_left
  · show Act.put _ (some 61) _ = _
    simp only [Act.put, List.setIfInBounds_toArray, List.set_cons_zero, List.set_cons_succ, i64_w, i32_w]
    rfl
  refine done_ (done_of HT_.out (by kernel_rfl)) ?_
  clear HT_ HW_ hHeld
  have m0 : W2.cell? ⟨gm, 0, none⟩ = some (.slice (some ⟨qm, 0, none⟩) ms.length cap) := (blk_cell HM.out.top 0).trans rfl
  have y0 := blk_frozen HM.out.top 0
  have m1 : W2.cell? ⟨gm, 1, none⟩ = some (.int .i64 s) := (blk_cell HM.out.top 1).trans rfl
  have y1 := blk_frozen HM.out.top 1
  have m2 : W2.cell? ⟨gm, 2, none⟩ = some (.bool false) := (blk_cell HM.out.top 2).trans rfl
  have y2 := blk_frozen HM.out.top 2
  have m3 : W2.cell? ⟨gm, 3, none⟩ = some (.bool true) := (blk_cell HM.out.top 3).trans rfl
  have y3 := blk_frozen HM.out.top 3
  have m4 : W2.cell? ⟨gm, 4, none⟩ = some (.int .i64 0) := (blk_cell HM.out.top 4).trans rfl
  have y4 := blk_frozen HM.out.top 4
  have m5 : W2.cell? ⟨gm, 5, none⟩ = some (.int .i64 (p : Int)) := (blk_cell HM.out.top 5).trans rfl
  have y5 := blk_frozen HM.out.top 5
  go_wp2
  (try simp only [Exit.inBlock, Exit.then])
  go_ret
  exact ⟨rfl, HM.out.set2 true, HF.out.set (p := ⟨gm, 2, none⟩) (Or.inl rfl) _⟩
set_option maxHeartbeats 4000000 in
set_option maxRecDepth 100000 in
theorem model_write.ok {w : World} {base gm qm cap s : Nat} {ms : List (Nat × Nat)} {bs : List (List Int)} {n pre : Int} {dead armed : Bool} (hd : MK w base gm qm cap s ms bs n pre dead armed) (k : Nat) (he : dead = false) (hn : armed = true → 0 < n) (hn2 : -9223372036854775808 ≤ n ∧ n < 9223372036854775808) (hk : k < ms.length) (hz : 0 < s ∧ s ≤ 65536) (ad : Addr) (bl : List Int) (cap2 : Nat) (hcap : bl.length ≤ cap2) (hab : ad.block ≠ gm) (hs1 : ∀ (j : Nat) (x : Int), bl[j]? = some x → w.cell? (ad.add j) = some (.int .u8 x)) (hl : bl.length = s) : Calls Try.prog 17 #[.pointer (some ⟨gm, 0, none⟩), .int .i64 (k : Int), .slice (some ad) bl.length cap2] w fun e w' => ∃ B c, e = .returned (.int .i64 0) ∧ w.heap.size ≤ B ∧ s ≤ c ∧ MK w' base gm qm cap s (ms.set k (B, c)) (bs.set k bl) (if armed = true then n - 1 else n) pre false armed ∧ DF (fun x => x = gm ∨ x = qm) w w' := by
  have hu41 := Try.underlying41
  have HM := Aside0.mk hd
  clear hd
  have m0 : w.cell? ⟨gm, 0, none⟩ = some (.slice (some ⟨qm, 0, none⟩) ms.length cap) := (blk_cell HM.out.top 0).trans rfl
  have y0 := blk_frozen HM.out.top 0
  have m1 : w.cell? ⟨gm, 1, none⟩ = some (.int .i64 s) := (blk_cell HM.out.top 1).trans rfl
  have y1 := blk_frozen HM.out.top 1
  have m2 : w.cell? ⟨gm, 2, none⟩ = some (.bool dead) := (blk_cell HM.out.top 2).trans rfl
  have y2 := blk_frozen HM.out.top 2
  have m3 : w.cell? ⟨gm, 3, none⟩ = some (.bool armed) := (blk_cell HM.out.top 3).trans rfl
  have y3 := blk_frozen HM.out.top 3
  have m4 : w.cell? ⟨gm, 4, none⟩ = some (.int .i64 n) := (blk_cell HM.out.top 4).trans rfl
  have y4 := blk_frozen HM.out.top 4
  have m5 : w.cell? ⟨gm, 5, none⟩ = some (.int .i64 pre) := (blk_cell HM.out.top 5).trans rfl
  have y5 := blk_frozen HM.out.top 5
  subst he
  obtain ⟨b, l_, cur, r0, r1, r2, r3, r4, r5⟩ := HM.out.at hk
  have H0 := Aside0.mk r0
  have HS := Aside0.mk hs1
  have HP := Aside0.mk (And.intro hl (And.intro hcap hz))
  have HAB := Aside0.mk hab
  have HBS := Aside0.mk (show base ≤ w.heap.size by have := HM.out.own.1; have := HM.out.lt.1; omega)
  have k1b : decide ((k : Int) < 0) = false := decide_eq_false (by omega)
  have k2b : decide ((ms.length : Int) ≤ (k : Int)) = false := decide_eq_false (by omega)
  have k2c : decide (ms.length ≤ k) = false := decide_eq_false (by omega)
  have k3 : ((bl.length : Int) = (s : Int)) = True := eq_true (by omega)
  have k4 : (bl.length = s) = True := eq_true hl
  have k5 : ((bl.length : Int) == (s : Int)) = true := beq_iff_eq.2 (by omega)
  have k6 : (bl.length == s) = true := beq_iff_eq.2 hl
  have q0 : ((k : Int) < (ms.length : Int)) = True := eq_true (by omega)
  have q1 : (k < ms.length) = True := eq_true hk
  clear hk hl hcap hs1 hab hz r0 r1 r2 r3 r4 r5
  cases armed with
  | true =>
    have h0 := hn rfl
    have n1 : (n = 0) = False := eq_false (by omega)
    have n2 : (n == 0) = false := beq_eq_false_iff_ne.2 (by omega)
    have w7 : wrap64 (n - 1) = n - 1 := by unfold wrap64; omega
    rw [if_pos rfl]
    clear hn h0 hn2
    go_enter Try.func17, Try.ntmps17
    go_upto_region 13 with (fail)
    have n0_ : Aside0 (MK (w.setCell ⟨gm, 4, none⟩ (.int .i64 (n - 1))) base gm qm cap s ms bs (n - 1) pre false true) := ⟨HM.out.set4 _⟩
    have n1_ : Aside0 (∀ (j : Nat) (x : Int), bl[j]? = some x → (w.setCell ⟨gm, 4, none⟩ (.int .i64 (n - 1))).cell? (ad.add j) = some (.int .u8 x)) := ⟨fun j x hx => (cell_off _ _ (by rw [add_block]; exact HAB.out)).trans (HS.out j x hx)⟩
    have n2_ : Aside0 (DF (fun x => x = gm ∨ x = qm) w (w.setCell ⟨gm, 4, none⟩ (.int .i64 (n - 1)))) := ⟨DF.set (DF.refl (fun x => x = gm ∨ x = qm) w) (p := ⟨gm, 4, none⟩) (Or.inl rfl) _⟩
    generalize w.setCell ⟨gm, 4, none⟩ (.int .i64 (n - 1)) = w3 at n0_ n1_ n2_ ⊢
    clear HM HS m0 m1 m2 m3 m4 m5 y0 y1 y2 y3 y4 y5
    have HM := n0_
    have HS := n1_
    have HF := n2_
    clear n0_ n1_ n2_
    refine start_ (n := 9) (S := (fun w' => w'.cell? ⟨gm, 0, none⟩ = some (.slice (some ⟨qm, 0, none⟩) ms.length cap))) (ds := []) #[false, false, false, false, false, false, false, false, false] (by kernel_rfl) rfl rfl ((blk_cell HM.out.top 0).trans rfl) (fun hHeld => ?_)
    refine with_tabW model_write.tab13 model_write.bits13 (fun HT_ HW_ => ?_)
    refine pure_ (i := 0) (N := some 76) (v := ?_) (a' := ?_) #[true, false, false, false, false, false, false, false, false] rfl rfl (any_of HT_.out (by kernel_rfl)) (fun _ _ _ h => h) (Or.inl ⟨by rfl, ?_⟩) ?_ ?_
    rotate_left
    · intro w'
      go_simp
      with_reducible rfl
    rotate_left
    · simp only [Act.put, List.setIfInBounds_toArray, List.set_cons_zero, List.set_cons_succ, i64_w, i32_w]
      rfl
    refine pure_ (i := 1) (N := some 77) (v := ?_) (a' := ?_) #[true, true, false, false, false, false, false, false, false] rfl rfl (any_of HT_.out (by kernel_rfl)) (fun _ _ _ h => h) (Or.inl ⟨by rfl, ?_⟩) ?_ ?_
    rotate_left
    · intro w'
      go_simp
      with_reducible rfl
    rotate_left
    · simp only [Act.put, List.setIfInBounds_toArray, List.set_cons_zero, List.set_cons_succ, i64_w, i32_w]
      rfl
    refine pure_ (i := 2) (N := some 78) (v := ?_) (a' := ?_) #[true, true, true, false, false, false, false, false, false] rfl rfl (any_of HT_.out (by kernel_rfl)) (fun _ _ _ h => h) (Or.inl ⟨by rfl, ?_⟩) ?_ ?_
    rotate_left
    · intro w'
      go_simp
      with_reducible rfl
    rotate_left
    · simp only [Act.put, List.setIfInBounds_toArray, List.set_cons_zero, List.set_cons_succ, i64_w, i32_w]
      rfl
    refine take_ (i := 3) (N := some 79) (v := ?_) (a' := ?_) #[true, true, true, true, false, false, false, false, false] rfl rfl (take_ofW HT_.out HW_.out (by kernel_rfl)) (fun _ _ _ h => h) (Or.inl ⟨by rfl, ?_⟩) hHeld ?_ ?_
    rotate_left
    · intro w' s0
      go_simp
      with_reducible rfl
    rotate_left
    · simp only [Act.put, List.setIfInBounds_toArray, List.set_cons_zero, List.set_cons_succ, i64_w, i32_w]
      rfl
    refine pure_ (i := 4) (N := some 80) (v := ?_) (a' := ?_) #[true, true, true, true, true, false, false, false, false] rfl rfl (any_of HT_.out (by kernel_rfl)) (fun _ _ _ h => h) (Or.inl ⟨by rfl, ?_⟩) ?_ ?_
    rotate_left
    · intro w'
      go_simp
      with_reducible rfl
    rotate_left
    · simp only [Act.put, List.setIfInBounds_toArray, List.set_cons_zero, List.set_cons_succ, i64_w, i32_w]
      rfl
    refine pure_ (i := 5) (N := some 81) (v := ?_) (a' := ?_) #[true, true, true, true, true, true, false, false, false] rfl rfl (any_of HT_.out (by kernel_rfl)) (fun _ _ _ h => h) (Or.inl ⟨by rfl, ?_⟩) ?_ ?_
    rotate_left
    · intro w'
      go_simp
      with_reducible rfl
    rotate_left
    · simp only [Act.put, List.setIfInBounds_toArray, List.set_cons_zero, List.set_cons_succ, i64_w, i32_w]
      rfl
    refine one_ (i := 6) (N := some 82) #[true, true, true, true, true, true, true, false, false] rfl rfl (one_of HT_.out (by kernel_rfl)) (by decide) (fun K hK => ?_)
    have n0_ : Aside0 (MK w3.drew base gm qm cap s ms bs (n - 1) pre false true) := ⟨HM.out.kept (S := fun _ => False) ⟨rfl, rfl, rfl, Nat.le_refl _, fun _ _ _ => rfl⟩ id id (fun _ _ => id)⟩
    have n1_ : Aside0 (∀ (j : Nat) (x : Int), bl[j]? = some x → w3.drew.cell? (ad.add j) = some (.int .u8 x)) := ⟨HS.out⟩
    have n2_ : Aside0 (DF (fun x => x = gm ∨ x = qm) w w3.drew) := ⟨⟨HF.out.os, HF.out.tape, HF.out.output, HF.out.size, HF.out.block⟩⟩
    clear HM HS HF
    have HM := n0_
    have HS := n1_
    have HF := n2_
    clear n0_ n1_ n2_
    generalize w3.drew = w4 at HM HS HF hHeld ⊢
    refine Kd.R_append_rows_step (Kd.int .u8) (w0 := w4) w4.heap.size (by rfl) (.const (.slice none 0 0)) (.tmp 81) 27 5 (.int .u8 0) 1 rfl Try.underlying27 info5 rfl (by decide) (by omega) (.slice none 0 0) ([] : List Int) bl _ _ _ (fun _ => True) (fun _ => False) rfl (by first | rfl | (go_simp; done)) ?aO ?aR (fun _ _ h => h) (fun _ h => h.elim) ?aF ?aB ?aS ?aL ?_
    (case aR => exact kd_of_cells (by have := HP.out; omega) HS.out)
    (case aB => exact Below.refl _ _)
    (case aF => exact (fun _ _ => trivial))
    (case aO => exact Kd.R_nil _ _ _ _ _)
    (case aS => exact Nat.le_refl _)
    (case aL => have := HP.out; simp only [List.length_nil]; omega)
    intro v1 w5 ho hb hg hat
    rw [List.nil_append] at ho
    obtain ⟨B, c, cur2, rfl, hB1, hB2, hB3, hB4⟩ := dk_own ho (by have := HP.out; omega)
    rw [HP.out.1] at hB3 hB4 ⊢
    have NB := Aside0.mk (And.intro hB1 hB3)
    have NC := Aside0.mk (And.intro hB2 hB4)
    have NW := Aside0.mk (show w.heap.size ≤ B from Nat.le_trans HF.out.size hB1)
    have NM : Aside0 (∀ x ∈ ms, x.1 ≠ B) := ⟨fun x hx e => by have := HM.out.lt.2.2 x hx; omega⟩
    have n0_ := Aside0.mk (HM.out.below hb)
    have n2_ := Aside0.mk (HF.out.trans (DF.of_below hb))
    clear HM HS HF ho hb hg hat hB1 hB2 hB3 hB4
    have HM := n0_
    have HF := n2_
    clear n0_ n2_
    refine hK.out _ _ ((blk_cell HM.out.top 0).trans rfl) (fun hHeld => ?_)
    clear hK K
    refine norm_ (a' := ?_) ?_ ?_
    rotate_left
    · show Act.put _ (some 82) _ = _
      simp only [Act.put, List.setIfInBounds_toArray, List.set_cons_zero, List.set_cons_succ, i64_w, i32_w]
      rfl
    refine pure_ (i := 7) (N := some 83) (v := ?_) (a' := ?_) #[true, true, true, true, true, true, true, true, false] rfl rfl (any_of HT_.out (by kernel_rfl)) (fun _ _ _ h => h) (Or.inl ⟨by rfl, ?_⟩) ?_ ?_
    rotate_left
    · intro w'
      go_simp
      with_reducible rfl
    rotate_left
    · simp only [Act.put, List.setIfInBounds_toArray, List.set_cons_zero, List.set_cons_succ, i64_w, i32_w]
      rfl
    refine one_ (i := 8) (N := none) #[true, true, true, true, true, true, true, true, true] rfl rfl (one_of HT_.out (by kernel_rfl)) (by decide) (fun K hK => ?_)
    obtain ⟨hs0, hfs0⟩ := HM.out.rowAt H0.out
    refine skip_ (w1 := w5.setCell ⟨qm, k, none⟩ (.slice (some ⟨B, 0, none⟩) s c)) (by rfl) rfl ?_ ?_
    · go_simp
    have n0_ := Aside0.mk (HM.out.rowB (l' := bl) H0.out (Nat.le_trans (show base ≤ w.heap.size from HBS.out) NW.out) NM.out HP.out.1 NB.out.2 NC.out.1 NC.out.2)
    have n2_ := Aside0.mk (HF.out.set (p := ⟨qm, k, none⟩) (Or.inr rfl) (.slice (some ⟨B, 0, none⟩) s c))
    generalize w5.setCell ⟨qm, k, none⟩ (.slice (some ⟨B, 0, none⟩) s c) = w6 at n0_ n2_ ⊢
    clear HM HF hs0 hfs0 NC
    have HM := n0_
    have HF := n2_
    clear n0_ n2_
    have m0 : w6.cell? ⟨gm, 0, none⟩ = some (.slice (some ⟨qm, 0, none⟩) ms.length cap) := by have h := (blk_cell HM.out.top 0).trans rfl; rw [List.length_set] at h; exact h
    refine hK.out _ _ m0 (fun hHeld => ?_)
    clear hK K m0
    refine done_ (done_of HT_.out (by kernel_rfl)) ?_
    clear HT_ HW_ hHeld
    go_wp2
    (try simp only [Exit.inBlock, Exit.then])
    go_ret
    exact ⟨B, c, rfl, NW.out, NB.out.2, HM.out, HF.out⟩

  | false =>
    rw [if_neg (by decide)]
    clear hn hn2
    go_enter Try.func17, Try.ntmps17
    go_upto_region 13 with (fail)
    have n0_ : Aside0 (MK (w) base gm qm cap s ms bs n pre false false) := ⟨HM.out⟩
    have n1_ : Aside0 (∀ (j : Nat) (x : Int), bl[j]? = some x → (w).cell? (ad.add j) = some (.int .u8 x)) := ⟨HS.out⟩
    have n2_ : Aside0 (DF (fun x => x = gm ∨ x = qm) w (w)) := ⟨DF.refl _ w⟩
    clear HM HS m0 m1 m2 m3 m4 m5 y0 y1 y2 y3 y4 y5
    have HM := n0_
    have HS := n1_
    have HF := n2_
    clear n0_ n1_ n2_
    refine start_ (n := 9) (S := (fun w' => w'.cell? ⟨gm, 0, none⟩ = some (.slice (some ⟨qm, 0, none⟩) ms.length cap))) (ds := []) #[false, false, false, false, false, false, false, false, false] (by kernel_rfl) rfl rfl ((blk_cell HM.out.top 0).trans rfl) (fun hHeld => ?_)
    refine with_tabW model_write.tab13 model_write.bits13 (fun HT_ HW_ => ?_)
    refine pure_ (i := 0) (N := some 76) (v := ?_) (a' := ?_) #[true, false, false, false, false, false, false, false, false] rfl rfl (any_of HT_.out (by kernel_rfl)) (fun _ _ _ h => h) (Or.inl ⟨by rfl, ?_⟩) ?_ ?_
    rotate_left
    · intro w'
      go_simp
      with_reducible rfl
    rotate_left
    · simp only [Act.put, List.setIfInBounds_toArray, List.set_cons_zero, List.set_cons_succ, i64_w, i32_w]
      rfl
    refine pure_ (i := 1) (N := some 77) (v := ?_) (a' := ?_) #[true, true, false, false, false, false, false, false, false] rfl rfl (any_of HT_.out (by kernel_rfl)) (fun _ _ _ h => h) (Or.inl ⟨by rfl, ?_⟩) ?_ ?_
    rotate_left
    · intro w'
      go_simp
      with_reducible rfl
    rotate_left
    · simp only [Act.put, List.setIfInBounds_toArray, List.set_cons_zero, List.set_cons_succ, i64_w, i32_w]
      rfl
    refine pure_ (i := 2) (N := some 78) (v := ?_) (a' := ?_) #[true, true, true, false, false, false, false, false, false] rfl rfl (any_of HT_.out (by kernel_rfl)) (fun _ _ _ h => h) (Or.inl ⟨by rfl, ?_⟩) ?_ ?_
    rotate_left
    · intro w'
      go_simp
      with_reducible rfl
    rotate_left
    · simp only [Act.put, List.setIfInBounds_toArray, List.set_cons_zero, List.set_cons_succ, i64_w, i32_w]
      rfl
    refine take_ (i := 3) (N := some 79) (v := ?_) (a' := ?_) #[true, true, true, true, false, false, false, false, false] rfl rfl (take_ofW HT_.out HW_.out (by kernel_rfl)) (fun _ _ _ h => h) (Or.inl ⟨by rfl, ?_⟩) hHeld ?_ ?_
    rotate_left
    · intro w' s0
      go_simp
      with_reducible rfl
    rotate_left
    · simp only [Act.put, List.setIfInBounds_toArray, List.set_cons_zero, List.set_cons_succ, i64_w, i32_w]
      rfl
    refine pure_ (i := 4) (N := some 80) (v := ?_) (a' := ?_) #[true, true, true, true, true, false, false, false, false] rfl rfl (any_of HT_.out (by kernel_rfl)) (fun _ _ _ h => h) (Or.inl ⟨by rfl, ?_⟩) ?_ ?_
    rotate_left
    · intro w'
      go_simp
      with_reducible rfl
    rotate_left
    · simp only [Act.put, List.setIfInBounds_toArray, List.set_cons_zero, List.set_cons_succ, i64_w, i32_w]
      rfl
    refine pure_ (i := 5) (N := some 81) (v := ?_) (a' := ?_) #[true, true, true, true, true, true, false, false, false] rfl rfl (any_of HT_.out (by kernel_rfl)) (fun _ _ _ h => h) (Or.inl ⟨by rfl, ?_⟩) ?_ ?_
    rotate_left
    · intro w'
      go_simp
      with_reducible rfl
    rotate_left
    · simp only [Act.put, List.setIfInBounds_toArray, List.set_cons_zero, List.set_cons_succ, i64_w, i32_w]
      rfl
    refine one_ (i := 6) (N := some 82) #[true, true, true, true, true, true, true, false, false] rfl rfl (one_of HT_.out (by kernel_rfl)) (by decide) (fun K hK => ?_)
    have n0_ : Aside0 (MK w.drew base gm qm cap s ms bs n pre false false) := ⟨HM.out.kept (S := fun _ => False) ⟨rfl, rfl, rfl, Nat.le_refl _, fun _ _ _ => rfl⟩ id id (fun _ _ => id)⟩
    have n1_ : Aside0 (∀ (j : Nat) (x : Int), bl[j]? = some x → w.drew.cell? (ad.add j) = some (.int .u8 x)) := ⟨HS.out⟩
    have n2_ : Aside0 (DF (fun x => x = gm ∨ x = qm) w w.drew) := ⟨⟨HF.out.os, HF.out.tape, HF.out.output, HF.out.size, HF.out.block⟩⟩
    clear HM HS HF
    have HM := n0_
    have HS := n1_
    have HF := n2_
    clear n0_ n1_ n2_
    generalize w.drew = w4 at HM HS HF hHeld ⊢
    refine Kd.R_append_rows_step (Kd.int .u8) (w0 := w4) w4.heap.size (by rfl) (.const (.slice none 0 0)) (.tmp 81) 27 5 (.int .u8 0) 1 rfl Try.underlying27 info5 rfl (by decide) (by omega) (.slice none 0 0) ([] : List Int) bl _ _ _ (fun _ => True) (fun _ => False) rfl (by first | rfl | (go_simp; done)) ?aO ?aR (fun _ _ h => h) (fun _ h => h.elim) ?aF ?aB ?aS ?aL ?_
    (case aR => exact kd_of_cells (by have := HP.out; omega) HS.out)
    (case aB => exact Below.refl _ _)
    (case aF => exact (fun _ _ => trivial))
    (case aO => exact Kd.R_nil _ _ _ _ _)
    (case aS => exact Nat.le_refl _)
    (case aL => have := HP.out; simp only [List.length_nil]; omega)
    intro v1 w5 ho hb hg hat
    rw [List.nil_append] at ho
    obtain ⟨B, c, cur2, rfl, hB1, hB2, hB3, hB4⟩ := dk_own ho (by have := HP.out; omega)
    rw [HP.out.1] at hB3 hB4 ⊢
    have NB := Aside0.mk (And.intro hB1 hB3)
    have NC := Aside0.mk (And.intro hB2 hB4)
    have NW := Aside0.mk (show w.heap.size ≤ B from Nat.le_trans HF.out.size hB1)
    have NM : Aside0 (∀ x ∈ ms, x.1 ≠ B) := ⟨fun x hx e => by have := HM.out.lt.2.2 x hx; omega⟩
    have n0_ := Aside0.mk (HM.out.below hb)
    have n2_ := Aside0.mk (HF.out.trans (DF.of_below hb))
    clear HM HS HF ho hb hg hat hB1 hB2 hB3 hB4
    have HM := n0_
    have HF := n2_
    clear n0_ n2_
    refine hK.out _ _ ((blk_cell HM.out.top 0).trans rfl) (fun hHeld => ?_)
    clear hK K
    refine norm_ (a' := ?_) ?_ ?_
    rotate_left
    · show Act.put _ (some 82) _ = _
      simp only [Act.put, List.setIfInBounds_toArray, List.set_cons_zero, List.set_cons_succ, i64_w, i32_w]
      rfl
    refine pure_ (i := 7) (N := some 83) (v := ?_) (a' := ?_) #[true, true, true, true, true, true, true, true, false] rfl rfl (any_of HT_.out (by kernel_rfl)) (fun _ _ _ h => h) (Or.inl ⟨by rfl, ?_⟩) ?_ ?_
    rotate_left
    · intro w'
      go_simp
      with_reducible rfl
    rotate_left
    · simp only [Act.put, List.setIfInBounds_toArray, List.set_cons_zero, List.set_cons_succ, i64_w, i32_w]
      rfl
    refine one_ (i := 8) (N := none) #[true, true, true, true, true, true, true, true, true] rfl rfl (one_of HT_.out (by kernel_rfl)) (by decide) (fun K hK => ?_)
    obtain ⟨hs0, hfs0⟩ := HM.out.rowAt H0.out
    refine skip_ (w1 := w5.setCell ⟨qm, k, none⟩ (.slice (some ⟨B, 0, none⟩) s c)) (by rfl) rfl ?_ ?_
    · go_simp
    have n0_ := Aside0.mk (HM.out.rowB (l' := bl) H0.out (Nat.le_trans (show base ≤ w.heap.size from HBS.out) NW.out) NM.out HP.out.1 NB.out.2 NC.out.1 NC.out.2)
    have n2_ := Aside0.mk (HF.out.set (p := ⟨qm, k, none⟩) (Or.inr rfl) (.slice (some ⟨B, 0, none⟩) s c))
    generalize w5.setCell ⟨qm, k, none⟩ (.slice (some ⟨B, 0, none⟩) s c) = w6 at n0_ n2_ ⊢
    clear HM HF hs0 hfs0 NC
    have HM := n0_
    have HF := n2_
    clear n0_ n2_
    have m0 : w6.cell? ⟨gm, 0, none⟩ = some (.slice (some ⟨qm, 0, none⟩) ms.length cap) := by have h := (blk_cell HM.out.top 0).trans rfl; rw [List.length_set] at h; exact h
    refine hK.out _ _ m0 (fun hHeld => ?_)
    clear hK K m0
    refine done_ (done_of HT_.out (by kernel_rfl)) ?_
    clear HT_ HW_ hHeld
    go_wp2
    (try simp only [Exit.inBlock, Exit.then])
    go_ret
    exact ⟨B, c, rfl, NW.out, NB.out.2, HM.out, HF.out⟩

end Go.Proofs.Ytgeggcifhojpmaa.PA
